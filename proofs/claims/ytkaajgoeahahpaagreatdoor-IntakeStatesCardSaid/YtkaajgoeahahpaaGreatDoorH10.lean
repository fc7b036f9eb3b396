import Derived.Test.YtkaajgoeahahpaaGreatDoorH9
set_option linter.all false
set_option maxRecDepth 100000
set_option maxHeartbeats 0
namespace Go.Proofs.YtkaajgoeahahpaaGreatDoor
open Go.Value renaming int→B,slice→D
open Go.IntKind renaming i64→C
open Go.RowKit _root_.Go.Proofs.Tryz
variable {b p:Nat} {w wx:World} {t:TypeId} {cs:Array Value}
theorem kY(code var:Int)(v vb:Value)(ps:List av)(pgs:List (List Int))(w:World)(h:oa p w v ps)(hb:oc p w vb pgs) :
  Calls prog 44 #[.agg #[B C code,B C var,v],.agg #[vb]] w fun e w'=>e=.returned (.bool (jH code var ps pgs))/\ab w w':=by
 obtain⟨A,n,c,rfl,hnc,hc,hnn,HL⟩:=h.open_;obtain⟨Ab,m,cb,rfl,hmc,hcb,hmm,HM⟩:=hb.open_;have H:=zZ h;have HB:=zZ hb;clear h hb;go_enter func44,ntmps44
 go_wp2_with fail;refine (kP _ _ _ ps _ ((H.out.ext (bC.stab p) ((zE _).alloc _)).ext (bC.stab p) ((zE _).alloc _))).mono ?_;rintro e w1 ⟨rfl,hx1⟩;have HE1:=zZ (ab.trans (((zE w).alloc _).alloc _) hx1);have d0:w1.cell? ⟨w.heap.size+1,0,none⟩=some (D Ab m cb):=hx1.cell (by simp);have b2:w1.cell? ⟨w.heap.size,2,none⟩=some (D A n c):=hx1.cell (by simp);have D0:=zZ d0;have B2:=zZ b2;have HI1:=zZ (H.out.ext (bC.stab p) HE1.out);have HP1:=zZ (HB.out.ext (RI.stab p) HE1.out);clear hx1;cases hv:fD code var ps with
 |false =>
  have HF:=zZ (dE (fun hk=>by have:=hk.1;rw[hv]at this;cases this):jH code var ps pgs=false);clear hv;go_wp2_with fail;go_ret
  exact⟨aa HF.out.symm,HE1.out⟩
 |true =>
 have HV:=zZ hv;have hvp:=mD hv;have hn1:1<=n:=by have:=HL.out;omega
 have hn24:n<=24:=by have:=HL.out;omega
 clear hv hvp;by_cases hm:m<=12/\m%4=0;case neg =>
  have HF:=zZ (dE (fun hk=>hm (by have h1:=hk.2.1;have h2:=hk.2.2.1;rw[HM.out]at h1 h2;exact⟨h1,h2⟩)):jH code var ps pgs=false);by_cases h12:12<m
  ·clear hm;go_wp2_with fail;go_ret
   exact⟨aa HF.out.symm,HE1.out⟩
  ·have e4:((m:Int)%4 != 0)=true:=by simp;omega
   clear hm;go_wp2_with fail;go_ret
   exact⟨aa HF.out.symm,HE1.out⟩
 case pos =>
 obtain⟨hm12,hm4⟩:=hm;have e4:((m:Int)%4 != 0)=false:=by simp;omega
 have HM4:=zZ hm4;clear hm4;go_wp2_with fail;clear d0 b2 e4;go_loopw [5,30] (fun s5 s30 wr=>∃(i nx:Nat),i<=m/\nx<=n/\s30=B C i/\s5=B C nx/\Hid (kZ code var ps pgs i nx/\(0<i->∀l,pgs[0]?=some l->l=[])/\ab w1 wr)) (fun _ i _=>m-(intOf i).toNat)
 case atStart=>exact⟨0,0,by omega,by omega,rfl,rfl,kZ.start _ _ _ _,fun h=>absurd h (by omega),zE _⟩
 case round =>
  obtain⟨wo,rfl⟩:=nm (wr:World);obtain⟨i,nx,hi,hnx,rfl,rfl,HR⟩:=hrel;by_cases hlt:i<m
  ·obtain⟨bb,ob,cs0,l0,rfl,_⟩:=HB.out.at_ hlt;obtain⟨u,l,hcu,hIu,HX⟩:=(HP1.out.ext (RI.stab p) HR.out.2.2).page hlt;obtain⟨Au,nu,cu,rfl,hnu,hcu',hnnu,HLU⟩:=hIu.open_;have HIU:=zZ hIu;clear hIu;by_cases hi0:i=0/\0<nu
   ·obtain⟨hi00,hnu0⟩:=hi0;have HF:=zZ (dE (fun hk=>by have:=hk.2.2.2.1 l (by rw[<-hi00];exact HX.out);have h2:=HLU.out;rw[this]at h2;simp at h2;omega):jH code var ps pgs=false);have e0:((i:Int)==0)=true:=by simp[hi00]
    clear hi00;go_wp2_with fail;go_ret
    exact⟨aa HF.out.symm,HE1.out.trans HR.out.2.2⟩
   ·have H0:Hid (0<i+1->∀l,pgs[0]?=some l->l=[]):=fun _ l' hl'=>by
     by_cases e:i=0
     ·subst e;rw[HX.out]at hl';have:=xF hl';subst this;have:=HLU.out;exact xZ (by omega)
     ·exact HR.out.2.1 (by omega) l' hl'
    have hor:(∃_h:((i:Int)==0)=true,nu<1)\/(∃_h:((i:Int)==0)=false,nu<10000000000000000000):=by
     by_cases e:i=0
     ·exact .inl ⟨by simp[e],by omega⟩
     ·exact .inr ⟨by simp;omega,by omega⟩
    clear hi0;go_upto_region 7 with (fail)
    go_cut [41] (fun s41 wx=>s41=.bool false/\wo=wx)
    case first =>
     rcases hor with ⟨e0,hnu1⟩|⟨e0,hnu1⟩
     ·go_wp2_with fail;go_meet
      exact⟨by simp;omega,rfl⟩
     ·go_wp2_with fail;go_meet
      exact⟨rfl,rfl⟩
    case rest =>
    obtain⟨rfl,hwx⟩:=hcut;subst hwx;clear hor;go_wp2_with fail;go_loopw [5,8,44] (fun s5 s8 s44 wr=>∃(k:Nat) (ln:Int),k<=nu/\nx+k<=n/\0<=ln/\ln<=30*k/\s5=B C ((nx:Int)+k)/\s8=B C ln/\s44=B C k/\Hid (ln=nA (ps.map db) nx k/\nf (ps.map db) nx l k/\ab wo wr)) (fun _ _ i _=>nu-(intOf i).toNat)
    case atStart=>exact⟨0,0,by omega,by omega,by omega,by omega,by simp,rfl,rfl,(oN _ _).symm,rN (by have:=HL.out;simp;omega) _,zE _⟩
    case round =>
     obtain⟨k,ln,hk,hnk,hln0,hln1,rfl,rfl,rfl,HQ⟩:=hrel;have HEW:=zZ (HR.out.2.2.trans HQ.out.2.2);have b2:=HEW.out.cell B2.out;by_cases hklt:k<nu
     ·obtain⟨bu,ou,y,rfl,hcy,HY,hy1,hy2⟩:=(HIU.out.ext HQ.out.2.2).at_ hklt;by_cases hg:y=(nx:Int)+k/\nx+k<n
      ·obtain⟨hye,hnkn⟩:=hg;subst hye;obtain⟨b,off,cs1,q1,rfl,_⟩:=H.out.at_ hnkn;obtain⟨q,c0,c1,c2,c3,c4,c5,hw,HXq⟩:=(HI1.out.ext (bC.stab p) HEW.out).part hnkn;have hnb:=qp q;go_wp2_with fail;refine (Gk q _).mono ?_;rintro e w2 ⟨rfl,hx2⟩;clear c0 c1 c2 c3 c4 c5 b2 hcy;generalize hxq:db q=x at *
       have HXN:Hid ((ps.map db)[nx+k]?=some x):=by have:=nY HXq.out;rw[hxq]at this;exact this
       clear hxq;go_wp2_with fail;go_roundw
       case rel=>exact⟨k+1,ln+x,by omega,by omega,by omega,by omega,by go_num,rfl,by go_num,by rw[lx HXN.out,<-HQ.out.1],qK HQ.out.2.1 HY.out (by simp) (by have:=HL.out;simp;omega),HQ.out.2.2.trans hx2⟩
       case measure=>simp[intOf];omega
      ·have HF:=zZ (dE (HR.out.1.bad HX.out (D7 HY.out (by have:=HL.out;simp;omega))):jH code var ps pgs=false);by_cases hye:y=(nx:Int)+k
       ·subst hye;have hnkn:n<=nx+k:=by omega
        clear hg;go_wp2_with fail;go_ret
        exact⟨aa HF.out.symm,HE1.out.trans HEW.out⟩
       ·have e5:(y != (nx:Int)+k)=true:=by simp;exact hye
        clear hg hye;go_wp2_with fail;go_ret
        exact⟨aa HF.out.symm,HE1.out.trans HEW.out⟩
     ·obtain rfl:k=nu:=by omega
      by_cases hln:ln<=30
      ·have HOK:Hid (oW (ps.map db) nx l):=⟨by rw[HLU.out];exact HQ.out.2.1,by rw[HLU.out,<-HQ.out.1];exact hln⟩
       go_wp2_with fail;go_roundw
       case rel=>exact⟨i+1,nx+k,by omega,by omega,by go_num,by go_num,by have:=HR.out.1.next HX.out HOK.out;rw[HLU.out]at this;exact this,H0.out,HEW.out⟩
       case measure=>simp[intOf];omega
      ·have HF:=zZ (dE (HR.out.1.bad HX.out (fun hk=>hln (by have:=hk.2;rw[HLU.out,<-HQ.out.1]at this;exact this))):jH code var ps pgs=false);go_wp2_with fail;go_ret
       exact⟨aa HF.out.symm,HE1.out.trans HEW.out⟩
  ·obtain rfl:i=m:=by omega
   have b2:=HR.out.2.2.cell B2.out;have HFIN:Hid (decide (nx=n)=jH code var ps pgs):=by
    show decide (nx=n)=jH code var ps pgs
    have hl:=HR.out.1.fin HM.out;rw[HL.out]at hl;by_cases e:nx=n
    ·rw[qh ⟨HV.out,by rw[HM.out];exact hm12,by rw[HM.out];exact HM4.out,fun l hl'=>HR.out.2.1 (by have:=(zY.1 hl').1;rw[HM.out]at this;omega) l hl',hl.2 e⟩];simp[e]
    ·rw[dE (fun hk=>e (hl.1 hk.2.2.2.2))];simp[e]
   go_wp2_with fail;go_ret
   exact⟨aa (by rw[<-HFIN.out,yE];simp;omega),HE1.out.trans HR.out.2.2⟩
theorem eG(code var:Int)(v vb:Value)(ps:List av)(pgs:List (List Int))(w:World)(h:oa p w v ps)(hb:oc p w vb pgs) :
  Calls prog 52 #[.agg #[B C code,B C var,v],.agg #[vb]] w fun e w'=>e=.returned (.bool (jH code var ps pgs))/\ab w w':=by
 obtain⟨A,n,c,rfl,hnc,hc,hnn,HL⟩:=h.open_;obtain⟨Ab,m,cb,rfl,hmc,hcb,hmm,HM⟩:=hb.open_;have H:=zZ h;have HB:=zZ hb;clear h hb;go_enter func52,ntmps52
 go_wp2_with fail;refine (fc _ _ _ ps _ ((H.out.ext (bC.stab p) ((zE _).alloc _)).ext (bC.stab p) ((zE _).alloc _))).mono ?_;rintro e w1 ⟨rfl,hx1⟩;have HE1:=zZ (ab.trans (((zE w).alloc _).alloc _) hx1);have d0:w1.cell? ⟨w.heap.size+1,0,none⟩=some (D Ab m cb):=hx1.cell (by simp);have b2:w1.cell? ⟨w.heap.size,2,none⟩=some (D A n c):=hx1.cell (by simp);have D0:=zZ d0;have B2:=zZ b2;have HI1:=zZ (H.out.ext (bC.stab p) HE1.out);have HP1:=zZ (HB.out.ext (RI.stab p) HE1.out);clear hx1;cases hv:fD code var ps with
 |false =>
  have HF:=zZ (dE (fun hk=>by have:=hk.1;rw[hv]at this;cases this):jH code var ps pgs=false);clear hv;go_wp2_with fail;go_ret
  exact⟨aa HF.out.symm,HE1.out⟩
 |true =>
 have HV:=zZ hv;have hvp:=mD hv;have hn1:1<=n:=by have:=HL.out;omega
 have hn24:n<=24:=by have:=HL.out;omega
 clear hv hvp;by_cases hm0:m<1
 ·have HF:=zZ (dE (fun hk=>by
   have h5:=hk.2.2.2.2;have:pgs=[]:=xZ (by have:=HM.out;omega);rw[this]at h5;simp[eh]at h5;have:=HL.out;omega):jH code var ps pgs=false)
  go_wp2_with fail;go_ret
  exact⟨aa HF.out.symm,HE1.out⟩
 by_cases hm:m<=12/\m%4=0;case neg =>
  have HF:=zZ (dE (fun hk=>hm (by have h1:=hk.2.1;have h2:=hk.2.2.1;rw[HM.out]at h1 h2;exact⟨h1,h2⟩)):jH code var ps pgs=false);by_cases h12:12<m
  ·clear hm;go_wp2_with fail;go_ret
   exact⟨aa HF.out.symm,HE1.out⟩
  ·have e4:((m:Int)%4 != 0)=true:=by simp;omega
   clear hm;go_wp2_with fail;go_ret
   exact⟨aa HF.out.symm,HE1.out⟩
 case pos =>
 obtain⟨hm12,hm4⟩:=hm;have e4:((m:Int)%4 != 0)=false:=by simp;omega
 have HM4:=zZ hm4;have hm1:0<m:=by omega
 clear hm4 hm0;obtain⟨bb,ob,cs0,l0,rfl,_⟩:=HB.out.at_ hm1;obtain⟨u0,l00,hcu0,hIu0,HX0⟩:=HP1.out.page hm1;obtain⟨Au0,nu0,cu0,rfl,hnu0,hcu0',hnnu0,HLU0⟩:=hIu0.open_;simp only[yQ]at hcu0;by_cases hnz:0<nu0
 ·have HF:=zZ (dE (fun hk=>by have:=hk.2.2.2.1 l00 HX0.out;have h2:=HLU0.out;rw[this]at h2;simp at h2;omega):jH code var ps pgs=false);go_wp2_with fail;go_ret
  exact⟨aa HF.out.symm,HE1.out⟩
 have HZ:Hid (∀l,pgs[0]?=some l->l=[]):=fun l hl=>by rw[HX0.out]at hl;have:=xF hl;subst this;exact xZ (by have:=HLU0.out;omega)
 go_wp2_with fail;clear d0 b2 e4 hcu0 hIu0 hnz;go_loopw [5,6] (fun s5 s30 wr=>∃(i nx:Nat),i<=m/\nx<=n/\s30=B C i/\s5=B C nx/\Hid (kZ code var ps pgs i nx/\ab w1 wr)) (fun _ i _=>m-(intOf i).toNat)
 case atStart=>exact⟨0,0,by omega,by omega,rfl,rfl,kZ.start _ _ _ _,zE _⟩
 case round =>
  obtain⟨wo,rfl⟩:=nm (wr:World);obtain⟨i,nx,hi,hnx,rfl,rfl,HR⟩:=hrel;have d0:=HR.out.2.cell D0.out;by_cases hlt:i<m
  ·obtain⟨u,l,hcu,hIu,HX⟩:=(HP1.out.ext (RI.stab p) HR.out.2).page hlt;obtain⟨Au,nu,cu,rfl,hnu,hcu',hnnu,HLU⟩:=hIu.open_;have HIU:=zZ hIu;have HCU:=zZ hcu;clear hIu;go_wp2_with fail;clear d0 hcu;go_loopw [5,7,8] (fun s5 s8 s44 wr=>∃(k:Nat) (ln:Int),k<=nu/\nx+k<=n/\0<=ln/\ln<=30*k/\s5=B C ((nx:Int)+k)/\s8=B C ln/\s44=B C k/\Hid (ln=nA (ps.map db) nx k/\nf (ps.map db) nx l k/\ab wo wr)) (fun _ _ i _=>nu-(intOf i).toNat)
   case atStart=>exact⟨0,0,by omega,by omega,by omega,by omega,by simp,rfl,rfl,(oN _ _).symm,rN (by have:=HL.out;simp;omega) _,zE _⟩
   case round =>
    obtain⟨k,ln,hk,hnk,hln0,hln1,rfl,rfl,rfl,HQ⟩:=hrel;have HEW:=zZ (HR.out.2.trans HQ.out.2.2);have b2:=HEW.out.cell B2.out;have d0:=HEW.out.cell D0.out;have hcu:=HQ.out.2.2.cell HCU.out;by_cases hklt:k<nu
    ·obtain⟨bu,ou,y,rfl,hcy,HY,hy1,hy2⟩:=(HIU.out.ext HQ.out.2.2).at_ hklt;by_cases hg:y=(nx:Int)+k/\nx+k<n
     ·obtain⟨hye,hnkn⟩:=hg;subst hye;obtain⟨b,off,cs1,q1,rfl,_⟩:=H.out.at_ hnkn;obtain⟨q,c0,c1,c2,c3,c4,c5,hw,HXq⟩:=(HI1.out.ext (bC.stab p) HEW.out).part hnkn;have hnb:=qp q;go_wp2_with fail;refine (sA q _).mono ?_;rintro e w2 ⟨rfl,hx2⟩;clear c0 c1 c2 c3 c4 c5 b2 hcy d0 hcu;generalize hxq:db q=x at *
      have HXN:Hid ((ps.map db)[nx+k]?=some x):=by have:=nY HXq.out;rw[hxq]at this;exact this
      clear hxq;go_wp2_with fail;go_roundw
      case rel=>exact⟨k+1,ln+x,by omega,by omega,by omega,by omega,by go_num,rfl,by go_num,by rw[lx HXN.out,<-HQ.out.1],qK HQ.out.2.1 HY.out (by simp) (by have:=HL.out;simp;omega),HQ.out.2.2.trans hx2⟩
      case measure=>simp[intOf];omega
     ·have HF:=zZ (dE (HR.out.1.bad HX.out (D7 HY.out (by have:=HL.out;simp;omega))):jH code var ps pgs=false);by_cases hnkn:n<=nx+k
      ·clear hg;go_wp2_with fail;go_ret
       exact⟨aa HF.out.symm,HE1.out.trans HEW.out⟩
      ·have e5:(y != (nx:Int)+k)=true:=by simp;omega
       clear hg;go_wp2_with fail;go_ret
       exact⟨aa HF.out.symm,HE1.out.trans HEW.out⟩
    ·obtain rfl:k=nu:=by omega
     by_cases hln:ln<=30
     ·have HOK:Hid (oW (ps.map db) nx l):=⟨by rw[HLU.out];exact HQ.out.2.1,by rw[HLU.out,<-HQ.out.1];exact hln⟩
      go_wp2_with fail;go_roundw
      case rel=>exact⟨i+1,nx+k,by omega,by omega,by go_num,by go_num,by have:=HR.out.1.next HX.out HOK.out;rw[HLU.out]at this;exact this,HEW.out⟩
      case measure=>simp[intOf];omega
     ·have HF:=zZ (dE (HR.out.1.bad HX.out (fun hk=>hln (by have:=hk.2;rw[HLU.out,<-HQ.out.1]at this;exact this))):jH code var ps pgs=false);go_wp2_with fail;go_ret
      exact⟨aa HF.out.symm,HE1.out.trans HEW.out⟩
  ·obtain rfl:i=m:=by omega
   have b2:=HR.out.2.cell B2.out;have HFIN:Hid (decide (nx=n)=jH code var ps pgs):=by
    show decide (nx=n)=jH code var ps pgs
    have hl:=HR.out.1.fin HM.out;rw[HL.out]at hl;by_cases e:nx=n
    ·rw[qh ⟨HV.out,by rw[HM.out];exact hm12,by rw[HM.out];exact HM4.out,HZ.out,hl.2 e⟩];simp[e]
    ·rw[dE (fun hk=>e (hl.1 hk.2.2.2.2))];simp[e]
   go_wp2_with fail;go_ret
   exact⟨aa (by rw[<-HFIN.out,yE];simp;omega),HE1.out.trans HR.out.2⟩
theorem pJ{w1:World}{o o':Obj}{a b c d:Value}{t':TypeId}(ho:o=.cells #[a,b,c] t)(ho':o'=.cells #[d] t')(h:ab ((w.alloc o).alloc o') w1) :
  w1.cell? ⟨w.heap.size,0,none⟩=some a/\w1.cell? ⟨w.heap.size,1,none⟩=some b/\w1.cell? ⟨w.heap.size,2,none⟩=some c/\w1.cell? ⟨w.heap.size+1,0,none⟩=some d:=by
 subst ho;subst ho';have h1:=Hd (h.blk (((zE _).alloc _).blk (heap_alloc_new w _)));have h2:w1.cell? ⟨w.heap.size+1,0,none⟩=some d:=by have:=h.blk (heap_alloc_new (w.alloc (.cells #[a,b,c] t)) (.cells #[d] t'));have:=ac this (i:=0) rfl;simpa using this
 exact⟨h1.1,h1.2.1,h1.2.2,h2⟩
def td(p:Nat)(w:World)(fs:List lY)(e:Ending)(w':World):Prop:=∃v,e=.returned v/\Lg p w' v fs/\ab w w'
theorem Db(code var page:Int)(v vb:Value)(ps:List av)(pgs:List (List Int))(w:World)(hp:p<w.heap.size)(h:oa p w v ps)(hb:oc p w vb pgs)(hpg:aU page) :
  Calls prog 114 #[.agg #[B C code,B C var,v],.agg #[vb],B C page] w (td p w (dr code var ps pgs page)):=by
 obtain⟨iF,hiF,hy0,hy1,hy2⟩:=info_parts Tryz.infoF;obtain⟨A,n,c,rfl,hnc,hc,hnn,HL⟩:=h.open_;obtain⟨Ab,m,cb,rfl,hmc,hcb,hmm,HM⟩:=hb.open_;obtain⟨hg1,hg2⟩:=hpg;have HE:Hid (ab w ((w.alloc (.cells #[B C code,B C var,D A n c] 84)).alloc (.cells #[D Ab m cb] 79))):=((zE _).alloc _).alloc _;have HQ:=zZ (h.ext (bC.stab p) HE.out);have HP:=zZ (hb.ext (RI.stab p) HE.out);clear h hb;by_cases hin:0<=page/\page<m
 ·obtain⟨hi0,hi1⟩:=hin;obtain⟨j,rfl⟩:=zG hi0;have hjm:j<m:=by omega
  have hkb:=pJ (w:=w) (o:=.cells #[B C code,B C var,D A n c] 84) (o':=.cells #[D Ab m cb] 79) rfl rfl (zE _);replace hkb:=zZ hkb;cases hv:jH code var ps pgs with
  |false =>
   have HF:=zZ (jb (code:=code) (var:=var) (ps:=ps) (pgs:=pgs) (page:=(j:Int)) (by simp[hv]));replace hv:=zZ hv;go_enter func114,ntmps114
   go_wp2_with fail;refine (kY _ _ _ _ ps pgs _ HQ.out HP.out).mono ?_;rintro e w1 ⟨rfl,hx1⟩;rw[hv.out];go_wp2_with fail;go_ret
   exact⟨_,rfl,by rw[HF.out];exact bj.nil _ _ _ _,HE.out.trans hx1⟩
  |true =>
   obtain⟨bb,ob,cs0,pg0,rfl,_⟩:=HP.out.at_ hjm;obtain⟨u0,pg,hcu0,hIu0,HX0⟩:=HP.out.page hjm;have HF:=zZ (gn hv HX0.out);have HPP:=zZ (jL hv HX0.out);have HI64:=zZ (rO hv HX0.out);obtain⟨Ap,np,cp,rfl,_,_,_,HLp⟩:=hIu0.open_;have hnp:np<=24:=by have:=HPP.out.1;have:=HLp.out;omega
   replace hv:=zZ hv;replace hIu0:=zZ hIu0;replace hcu0:=zZ hcu0;go_enter func114,ntmps114
   go_wp2_with fail;refine (kY _ _ _ _ ps pgs _ HQ.out HP.out).mono ?_;rintro e w1 ⟨rfl,hx1⟩;rw[hv.out];replace hx1:=zZ hx1;have hcu:=hx1.out.cell hcu0.out;obtain⟨b0,b1,b2,b3⟩:=pJ (w:=w) rfl rfl hx1.out;have HQ1:=zZ (HQ.out.ext (bC.stab p) hx1.out);have HI1:=zZ (hIu0.out.ext hx1.out);have HE1:=zZ (HE.out.trans hx1.out);have hp1:p<w1.heap.size:=zB hp HE1.out.size;clear HQ HP hIu0 hcu0 HX0 hkb;go_wp2_with fail;go_loopw [7,32] (fun s7 s32 wr=>∃(k:Nat) (fs:List lY),s32=B C k/\k<=np/\fs.length<=5*k/\Hid (fs=dO ps (pg.take k)/\kI w1.heap.size wr s7 fs/\ab w1 wr)) (fun _ i _=>np-(intOf i).toNat)
   case atStart=>exact⟨0,[],rfl,by omega,by simp,by simp[dO],kI.nil _ _,zE _⟩
   case round =>
    obtain⟨k,fs,rfl,hk,hfl,HR⟩:=hrel;clear b0 b1 b2 b3 hcu;by_cases hkn:k<np
    ·obtain⟨b0,b1,b2,b3⟩:=pJ (w:=w) rfl rfl (hx1.out.trans HR.out.2.2);obtain⟨bp,op,x0,rfl,_⟩:=HI1.out.at_ hkn;obtain⟨x,hcx,HX,hx1',hx2'⟩:=(HI1.out.ext HR.out.2.2).cell_ hkn;obtain⟨i,q,hxi,hqi,hi24,hvq⟩:=HPP.out.2 k x HX.out;subst hxi;have hin:i<n:=by have:=(zY.1 hqi).1;have:=HL.out;omega
     obtain⟨bq,oq,cs1,q1,rfl,_⟩:=HQ1.out.at_ hin;obtain⟨q',c0,c1,c2,c3,c4,c5,_,HQq⟩:=(HQ1.out.ext (bC.stab p) HR.out.2.2).part hin;obtain rfl:q'=q:=by have:=HQq.out;rw[hqi]at this;exact (xF this).symm
     have hvo:=k8 hvq;replace hqi:=zZ hqi;replace hvq:=zZ hvq;by_cases hk2:q'.kind=2
     ·have hb2:(q'.kind != 2)=false:=by simp[hk2]
      have ho5:2<=q'.opts/\q'.opts<=5:=by omega
      obtain⟨ho2,ho5⟩:=ho5;obtain⟨oo,hoo⟩:=zG (show 0<=q'.opts by omega);have HPF:Hid (jA ps (i:Int)=(List.range oo).map fun k:Nat=>⟨(i:Int),(k:Int)⟩):=by
       show _=_
       have:=ot hqi.out hk2;rw[hoo]at this;simpa using this
      rw[hoo]at c4 ho2 ho5;clear hvo hk2 hoo;obtain⟨wo,rfl⟩:=nm (wr:World);go_wp2_with fail;go_loopw [7,10,49] (fun s7 s10 s49 wr=>∃(o:Nat) (fs2:List lY),s49=B C o/\o<=oo/\fs2.length<=5*k+o/\Hid (fs2=dO ps (pg.take k)++(List.range o).map (fun k:Nat=>⟨(i:Int),(k:Int)⟩)/\kI w1.heap.size wr s7 fs2/\ab w1 wr)) (fun _ _ i _=>oo-(intOf i).toNat)
      case atStart=>exact⟨0,fs,rfl,by omega,by omega,by simpa using HR.out.1,HR.out.2.1,HR.out.2.2⟩
      case round =>
       obtain⟨o,fs2,rfl,ho,hfl2,HS⟩:=hrel;by_cases hoo':o<oo
       ·go_wp2_with (at_builtin;refine cZ _ rfl (.tmp 52) (.tmp 56) 127 rfl w1.heap.size 167 iF _ 2 16 underlying127 hiF hy0 hy1 hy2 rfl (by omega) _ _ _ rfl (HS.out.2.1.own.alloc _) _ _ _ rfl (heap_alloc_new wr _) rfl (by simp[Value.oneCell']) (by omega) (by omega) (by have:=HS.out.2.2.size;simp;omega) ?_;intro v5 w5 hown5 hg5);go_roundw
        case rel=>exact⟨v5,B C o,B C (o+1),⟨o+1,by go_num,by omega,fs2++[⟨(i:Int),(o:Int)⟩],by simp;omega,by rw[rE,HS.out.1,xY],kI.push hown5,ab.grown (HS.out.2.2.alloc _) hg5 (aq HS.out.2.1.own)⟩,rfl,rfl,rfl⟩
        case measure=>simp[intOf];omega
       ·obtain rfl:o=oo:=by omega
        go_wp2_with fail;go_roundw
        case rel=>exact⟨k+1,fs2,by go_num,by omega,by omega,by rw[lI HX.out,HPF.out];exact HS.out.1,HS.out.2⟩
        case measure=>simp[intOf];omega
     ·have hb2:(q'.kind != 2)=true:=by simp[hk2]
      have HPF:=zZ (qZ hqi.out hk2);clear hvo hk2;go_wp2_with fail;go_roundw
      case rel=>exact⟨k+1,fs,by go_num,by omega,by omega,by rw[lI HX.out,HPF.out,xN];exact HR.out.1,HR.out.2⟩
      case measure=>simp[intOf];omega
    ·obtain rfl:k=np:=by omega
     go_wp2_with fail;go_ret
     refine⟨_,rfl,?_,HE1.out.trans HR.out.2.2⟩;rw[HF.out,<-bh HLp.out,<-HR.out.1];refine HR.out.2.1.isF hp1 ?_;rw[HR.out.1,bh HLp.out];exact HI64.out
 ·have HF:=zZ (jb (code:=code) (var:=var) (ps:=ps) (pgs:=pgs) (page:=page) (by have:=HM.out;rw[this];exact fun h=>hin h.2));have hin':page<0\/(m:Int)<=page:=by omega
  clear hin;by_cases hneg:page<0
  ·clear hin';go_enter func114,ntmps114
   go_wp2_with fail;go_ret
   exact⟨_,rfl,by rw[HF.out];exact bj.nil _ _ _ _,HE.out⟩
  ·have hge:(m:Int)<=page:=by omega
   clear hin';go_enter func114,ntmps114
   go_wp2_with fail;go_ret
   exact⟨_,rfl,by rw[HF.out];exact bj.nil _ _ _ _,HE.out⟩
theorem ko(code var page:Int)(v vb:Value)(ps:List av)(pgs:List (List Int))(w:World)(hp:p<w.heap.size)(h:oa p w v ps)(hb:oc p w vb pgs)(hpg:aU page) :
  Calls prog 83 #[.agg #[B C code,B C var,v],.agg #[vb],B C page] w (td p w (dr code var ps pgs page)):=by
 obtain⟨iF,hiF,hy0,hy1,hy2⟩:=info_parts Tryz.infoF;obtain⟨A,n,c,rfl,hnc,hc,hnn,HL⟩:=h.open_;obtain⟨Ab,m,cb,rfl,hmc,hcb,hmm,HM⟩:=hb.open_;obtain⟨hg1,hg2⟩:=hpg;have HE:Hid (ab w ((w.alloc (.cells #[B C code,B C var,D A n c] 84)).alloc (.cells #[D Ab m cb] 79))):=((zE _).alloc _).alloc _;have HQ:=zZ (h.ext (bC.stab p) HE.out);have HP:=zZ (hb.ext (RI.stab p) HE.out);clear h hb;by_cases hin:0<=page/\page<m
 ·obtain⟨hi0,hi1⟩:=hin;obtain⟨j,rfl⟩:=zG hi0;have hjm:j<m:=by omega
  have hkb:=pJ (w:=w) (o:=.cells #[B C code,B C var,D A n c] 84) (o':=.cells #[D Ab m cb] 79) rfl rfl (zE _);replace hkb:=zZ hkb;cases hv:jH code var ps pgs with
  |false =>
   have HF:=zZ (jb (code:=code) (var:=var) (ps:=ps) (pgs:=pgs) (page:=(j:Int)) (by simp[hv]));replace hv:=zZ hv;go_enter func83,ntmps83
   go_wp2_with fail;refine (eG _ _ _ _ ps pgs _ HQ.out HP.out).mono ?_;rintro e w1 ⟨rfl,hx1⟩;rw[hv.out];go_wp2_with fail;go_ret
   exact⟨_,rfl,by rw[HF.out];exact bj.nil _ _ _ _,HE.out.trans hx1⟩
  |true =>
   obtain⟨bb,ob,cs0,pg0,rfl,_⟩:=HP.out.at_ hjm;obtain⟨u0,pg,hcu0,hIu0,HX0⟩:=HP.out.page hjm;have HF:=zZ (gn hv HX0.out);have HPP:=zZ (jL hv HX0.out);have HI64:=zZ (rO hv HX0.out);obtain⟨Ap,np,cp,rfl,_,_,_,HLp⟩:=hIu0.open_;have hnp:np<=24:=by have:=HPP.out.1;have:=HLp.out;omega
   replace hv:=zZ hv;replace hIu0:=zZ hIu0;replace hcu0:=zZ hcu0;go_enter func83,ntmps83
   go_wp2_with fail;refine (eG _ _ _ _ ps pgs _ HQ.out HP.out).mono ?_;rintro e w1 ⟨rfl,hx1⟩;rw[hv.out];replace hx1:=zZ hx1;have hcu:=hx1.out.cell hcu0.out;obtain⟨b0,b1,b2,b3⟩:=pJ (w:=w) rfl rfl hx1.out;have HQ1:=zZ (HQ.out.ext (bC.stab p) hx1.out);have HI1:=zZ (hIu0.out.ext hx1.out);have HE1:=zZ (HE.out.trans hx1.out);have hp1:p<w1.heap.size:=zB hp HE1.out.size;clear HQ HP hIu0 HX0 hkb;go_wp2_with fail;go_loopw [7,8] (fun s7 s32 wr=>∃(k:Nat) (fs:List lY),s32=B C k/\k<=np/\fs.length<=5*k/\Hid (fs=dO ps (pg.take k)/\kI w1.heap.size wr s7 fs/\ab w1 wr)) (fun _ i _=>np-(intOf i).toNat)
   case atStart=>exact⟨0,[],rfl,by omega,by simp,by simp[dO],kI.nil _ _,zE _⟩
   case round =>
    obtain⟨k,fs,rfl,hk,hfl,HR⟩:=hrel;clear b0 b1 b2 b3 hcu;have hcu:=(hx1.out.trans HR.out.2.2).cell hcu0.out;obtain⟨b0,b1,b2,b3⟩:=pJ (w:=w) rfl rfl (hx1.out.trans HR.out.2.2);by_cases hkn:k<np
    ·skip
     obtain⟨bp,op,x0,rfl,_⟩:=HI1.out.at_ hkn;obtain⟨x,hcx,HX,hx1',hx2'⟩:=(HI1.out.ext HR.out.2.2).cell_ hkn;obtain⟨i,q,hxi,hqi,hi24,hvq⟩:=HPP.out.2 k x HX.out;subst hxi;have hin:i<n:=by have:=(zY.1 hqi).1;have:=HL.out;omega
     obtain⟨bq,oq,cs1,q1,rfl,_⟩:=HQ1.out.at_ hin;obtain⟨q',c0,c1,c2,c3,c4,c5,_,HQq⟩:=(HQ1.out.ext (bC.stab p) HR.out.2.2).part hin;obtain rfl:q'=q:=by have:=HQq.out;rw[hqi]at this;exact (xF this).symm
     have hvo:=k8 hvq;replace hqi:=zZ hqi;replace hvq:=zZ hvq;by_cases hk2:q'.kind=2
     ·have hb2:(q'.kind != 2)=false:=by simp[hk2]
      have ho5:2<=q'.opts/\q'.opts<=5:=by omega
      obtain⟨ho2,ho5⟩:=ho5;obtain⟨oo,hoo⟩:=zG (show 0<=q'.opts by omega);have HPF:Hid (jA ps (i:Int)=(List.range oo).map fun k:Nat=>⟨(i:Int),(k:Int)⟩):=by
       show _=_
       have:=ot hqi.out hk2;rw[hoo]at this;simpa using this
      rw[hoo]at c4 ho2 ho5;have HOO:=zZ hoo;clear hvo hk2 hoo;obtain⟨wo,rfl⟩:=nm (wr:World);go_wp2_with fail;go_loopw [7,10] (fun s7 s49 wr=>∃(o:Nat) (fs2:List lY),s49=B C o/\o<=oo/\fs2.length<=5*k+o/\Hid (fs2=dO ps (pg.take k)++(List.range o).map (fun k:Nat=>⟨(i:Int),(k:Int)⟩)/\kI w1.heap.size wr s7 fs2/\ab w1 wr)) (fun _ i _=>oo-(intOf i).toNat)
      case atStart=>exact⟨0,fs,rfl,by omega,by omega,by simpa using HR.out.1,HR.out.2.1,HR.out.2.2⟩
      case round =>
       obtain⟨o,fs2,rfl,ho,hfl2,HS⟩:=hrel;clear b0 b1 b2 b3 hcu c0 c1 c2 c3 c4 c5 hcx;obtain⟨b0,b1,b2,b3⟩:=pJ (w:=w) rfl rfl (hx1.out.trans HS.out.2.2);obtain⟨q2,c0,c1,c2,c3,c4,c5,_,HQq2⟩:=(HQ1.out.ext (bC.stab p) HS.out.2.2).part hin;obtain rfl:q2=q':=by have:=HQq2.out;rw[hqi.out]at this;exact (xF this).symm
       rw[HOO.out]at c4;by_cases hoo':o<oo
       ·go_wp2_with (at_builtin;refine cZ _ rfl (.tmp 61) (.tmp 65) 127 rfl w1.heap.size 167 iF _ 2 16 underlying127 hiF hy0 hy1 hy2 rfl (by omega) _ _ _ rfl (HS.out.2.1.own.alloc _) _ _ _ rfl (heap_alloc_new wr _) rfl (by simp[Value.oneCell']) (by omega) (by omega) (by have:=HS.out.2.2.size;simp;omega) ?_;intro v5 w5 hown5 hg5);go_roundw
        case rel=>exact⟨o+1,by omega,by omega,fs2++[⟨(i:Int),(o:Int)⟩],by simp;omega,by rw[rE,HS.out.1,xY],kI.push hown5,ab.grown (HS.out.2.2.alloc _) hg5 (aq HS.out.2.1.own)⟩
        case measure=>simp[intOf];omega
       ·obtain rfl:o=oo:=by omega
        go_wp2_with fail;go_roundw
        case rel=>exact⟨k+1,fs2,by go_num,by omega,by omega,by rw[lI HX.out,HPF.out];exact HS.out.1,HS.out.2⟩
        case measure=>simp[intOf];omega
     ·have hb2:(q'.kind != 2)=true:=by simp[hk2]
      have HPF:=zZ (qZ hqi.out hk2);clear hvo hk2;go_wp2_with fail;go_roundw
      case rel=>exact⟨k+1,fs,by go_num,by omega,by omega,by rw[lI HX.out,HPF.out,xN];exact HR.out.1,HR.out.2⟩
      case measure=>simp[intOf];omega
    ·obtain rfl:k=np:=by omega
     go_wp2_with fail;go_ret
     refine⟨_,rfl,?_,HE1.out.trans HR.out.2.2⟩;rw[HF.out,<-bh HLp.out,<-HR.out.1];refine HR.out.2.1.isF hp1 ?_;rw[HR.out.1,bh HLp.out];exact HI64.out
 ·have HF:=zZ (jb (code:=code) (var:=var) (ps:=ps) (pgs:=pgs) (page:=page) (by have:=HM.out;rw[this];exact fun h=>hin h.2));have hin':page<0\/(m:Int)<=page:=by omega
  clear hin;cases hv:jH code var ps pgs with
  |false =>
   replace hv:=zZ hv;clear hin';go_enter func83,ntmps83
   go_wp2_with fail;refine (eG _ _ _ _ ps pgs _ HQ.out HP.out).mono ?_;rintro e w1 ⟨rfl,hx1⟩;rw[hv.out];go_wp2_with fail;go_ret
   exact⟨_,rfl,by rw[HF.out];exact bj.nil _ _ _ _,HE.out.trans hx1⟩
  |true =>
   replace hv:=zZ hv;by_cases hneg:page<0
   ·clear hin';go_enter func83,ntmps83
    go_wp2_with fail;refine (eG _ _ _ _ ps pgs _ HQ.out HP.out).mono ?_;rintro e w1 ⟨rfl,hx1⟩;rw[hv.out];go_wp2_with fail;go_ret
    exact⟨_,rfl,by rw[HF.out];exact bj.nil _ _ _ _,HE.out.trans hx1⟩
   ·have hge:(m:Int)<=page:=by omega
    clear hin';go_enter func83,ntmps83
    go_wp2_with fail;refine (eG _ _ _ _ ps pgs _ HQ.out HP.out).mono ?_;rintro e w1 ⟨rfl,hx1⟩;rw[hv.out];obtain⟨b0,b1,b2,b3⟩:=pJ (w:=w) rfl rfl hx1;go_wp2_with fail;go_ret
    exact⟨_,rfl,by rw[HF.out];exact bj.nil _ _ _ _,HE.out.trans hx1⟩
theorem F5{ps:List av}{pg:List Int}(h:∀x∈pg,∃(j:Nat) (q:av),x=j/\ps[j]?=some q/\q.opts<=5):(dO ps pg).length<=5*pg.length:=by
 induction pg with
 |nil=>simp[dO]
 |cons x pg ih =>
  have h1:=ih fun y hy=>h y (by simp[hy]);obtain⟨j,q,rfl,hq,ho⟩:=h x (by simp);have h2:(jA ps (j:Int)).length<=5:=by
   by_cases hk:q.kind=2
   ·rw[ot hq hk,zJ,wQ];omega
   ·rw[qZ hq hk];simp
  have e:dO ps ((j:Int)::pg)=jA ps (j:Int)++dO ps pg:=by simp[dO]
  rw[e,yU,xQ];omega
theorem pH(code var:Int)(ps:List av)(pgs:List (List Int))(page:Int):(dr code var ps pgs page).length<=120:=by
 unfold dr;split
 ·rename_i h
  cases hp:pgs[page.toNat]? with
  |none=>simp
  |some pg =>
   obtain⟨h1,h2⟩:=jL h.1 hp;have:=F5 (ps:=ps) (pg:=pg) fun x hx=>by obtain⟨k,hk⟩:=zH hx;obtain⟨j,q,e,hq,_,hv⟩:=h2 k x hk;exact⟨j,q,e,hq,by have:=k8 hv;omega⟩
   simp only;omega
 ·simp
theorem GP{off:Nat}{cs:List Value}{x:je}(hc:∀j u,cs[j]?=some u->w.cell? ⟨b,off+j,none⟩=some u)(h:BQ p w cs x) :
  ∃A n c,w.cell? ⟨b,off,none⟩=some (B C x.code)/\w.cell? ⟨b,off+1,none⟩=some (B C x.var)/\w.cell? ⟨b,off+2,none⟩=some (D A n c)/\oa p w (D A n c) x.ps/\aU x.code/\aU x.var:=by
 obtain⟨u,rfl,hq,h1,h2⟩:=h;obtain⟨A,n,c,rfl,_⟩:=hq.open_;exact⟨A,n,c,hc 0 _ rfl,hc 1 _ rfl,hc 2 _ rfl,hq,h1,h2⟩
theorem Hw{off:Nat}{cs:List Value}{x:List (List Int)}(hc:∀j u,cs[j]?=some u->w.cell? ⟨b,off+j,none⟩=some u)(h:JY p w cs x) :
  ∃A n c,w.cell? ⟨b,off,none⟩=some (D A n c)/\oc p w (D A n c) x:=by
 obtain⟨u,rfl,hq⟩:=h;obtain⟨A,n,c,rfl,_⟩:=hq.open_;exact⟨A,n,c,hc 0 _ rfl,hq⟩
def fu(w:World)(base:Nat)(v:Value)(ch:List Int):Prop:=w.ownsRow base 3 1 v ch.length (ch.map (Value.int .i64))/\(∀x∈ch,aU x)/\ch.length<=200
section
variable {p base:Nat} {w w':World} {v:Value} {ch:List Int}
theorem fu.xt(h:fu w base v ch)(hx:XT p w w')(hp:p<base):fu w' base v ch:=⟨dD h.1 hx hp,h.2⟩
theorem fu.ext(h:fu w base v ch)(hx:ab w w'):fu w' base v ch:=⟨ao h.1 hx,h.2⟩
theorem fu.base_(h:fu w base v ch)(hb:b<=base):fu w b v ch:=⟨cd h.1 hb,h.2⟩
theorem fu.isI(h:fu w base v ch)(hp:p<base):ak p w v ch:=ak.of_own h.1 hp h.2.1 (by have:=h.2.2;omega)
theorem fu.form(h:fu w base v ch):∃A c,v=D A ch.length c:=by
 rcases h.1.2 with ⟨e,h0⟩|⟨g,cap,cur,e,_⟩
 ·exact⟨none,0,by rw[e,h0]⟩
 ·exact⟨_,_,e⟩
theorem fu.far{g:Nat}(h:fu w base v ch)(hb:Bk w g cs t)(ht:t≠3)(i:Nat)(u:Value):fu (w.setCell ⟨g,i,none⟩ u) base v ch :=
 ⟨aN (a:=⟨g,i,none⟩) h.1 (aG h.1 hb ht) u,h.2⟩
theorem fu.apart{e size n:Nat}{z:Value}{xs:List Value}(h:fu w base v ch)(ho:w.ownsRow b e size z n xs)(he:3≠e)(hg:w.grownBy w' z.ownBlock):fu w' base v ch :=
 ⟨aJ h.1 hg fun k hk e'=>cA h.1 ho he k hk e',h.2⟩
theorem fu.nil(w:World)(base:Nat):fu w base (D none 0 0) []:=⟨yZ _ _ _ _,by simp,by simp⟩
end
theorem fJ(p:Nat)(v:Value)(s:dl)(l:cJ)(w:World)(h:bz w p)(hs:aR p w v s)(hl:l.wf) :
  Calls prog 64 #[.pointer (some ⟨p,0,none⟩),v,l.val] w (iN p w fun v w'=>∃ch,fu w' w.heap.size v ch):=by
 obtain⟨vP,vB,vX,rfl,hP,hB,hX,hnum⟩:=hs;obtain⟨AP,nP,cP,rfl,hnP,hcP,hmP,HLP⟩:=hP.open_;obtain⟨AB,nB,cB,rfl,hnB,hcB,hmB,HLB⟩:=hB.open_;obtain⟨i0,hi0,hz0,hz1,hz2⟩:=info_parts Tryz.infoI;obtain⟨lp,lc,lg,lv⟩:=l;obtain⟨⟨l1,l2⟩,⟨l3,l4⟩,⟨l5,l6⟩,⟨l7,l8⟩⟩:=hl;simp only at l1 l2 l3 l4 l5 l6 l7 l8;have hlt:=h.lt;have HL5:Bx (aU lg):=⟨⟨l5,l6⟩⟩
 obtain⟨w1,hw1⟩:=nm (((w.alloc (.cells #[B C s.num,D AP nP cP,D AB nB cB,vX] 27)).alloc (.cells #[B C lp,B C lc,B C lg,B C lv] 45)):World);have HF:Bx (Fr p w w1 [(w.heap.size,#[B C s.num,D AP nP cP,D AB nB cB,vX],27),(w.heap.size+1,#[B C lp,B C lc,B C lg,B C lv],45)]):=⟨by rw[hw1];exact ((Fr.start h).push _ _ rfl).push _ _ (by simp)⟩
 have HP:Bx (jg p w1 (D AP nP cP) s.pap):=⟨by rw[hw1];exact hP.ext (BQ.stab p) (((zE _).alloc _).alloc _)⟩
 have HB:Bx (l9 p w1 (D AB nB cB) s.bk):=⟨by rw[hw1];exact hB.ext (JY.stab p) (((zE _).alloc _).alloc _)⟩
 have hv:cJ.val ⟨lp,lc,lg,lv⟩=.agg #[B C lp,B C lc,B C lg,B C lv]:=rfl;rw[hv];clear h hP hB hX hv hnum;go_enter func64,ntmps64
 go_upto_region 2 with (fail)
 rw[<-hw1];clear hw1;go_cut [28] (fun s28 wx=>∃b:Bool,s28=.bool b/\Hid (b=true->0<=lv/\lv<nP/\lv<nB)/\wx=w1)
 case first =>
  have c3:=(HF.out.at_ 1 rfl).c 3 rfl;have c1:=(HF.out.at_ 0 rfl).c 1 rfl;have c2:=(HF.out.at_ 0 rfl).c 2 rfl;by_cases h0:0<=lv
  ·by_cases h1:lv<nP
   ·by_cases h2:lv<nB
    ·go_wp2_with fail;go_meet
     exact⟨true,rfl,fun _=>⟨h0,h1,h2⟩,rfl⟩
    ·go_wp2_with fail;go_meet
     exact⟨false,rfl,(fun h=>by cases h),rfl⟩
   ·go_wp2_with fail;go_meet
    exact⟨false,rfl,(fun h=>by cases h),rfl⟩
  ·go_wp2_with fail;go_meet
   exact⟨false,rfl,(fun h=>by cases h),rfl⟩
 case rest =>
 obtain⟨b,rfl,HB28,hwc⟩:=hcut;subst hwc;go_upto_if 28 with (fail)
 go_cut [7] (fun s7 wx=>∃m:Nat,s7=B C m/\m<=120/\Bx (Fr p w wx []))
 case first =>
  cases b with
  |false =>
   go_wp2_with fail;go_meet
   exact⟨0,rfl,by omega,⟨HF.out.take 0⟩⟩
  |true =>
   obtain⟨h0,h1,h2⟩:=HB28.out rfl;obtain⟨r,rfl⟩:=zG h0;have hrP:r<nP:=by omega
   have hrB:r<nB:=by omega
   obtain⟨bP,oP,_,_,rfl,-⟩:=HP.out.at_ hrP;obtain⟨bB,oB,_,_,rfl,-⟩:=HB.out.at_ hrB;obtain⟨csP,q,-,hcP',hRP,hxP⟩:=HP.out.cell_ hrP;obtain⟨csB,bk,-,hcB',hRB,hxB⟩:=HB.out.cell_ hrB;obtain⟨Aq,nq,cq,p0,p1,p2,hIQ,hq1,hq2⟩:=GP hcP' hRP;obtain⟨Ab,nb,cb,b0,hIB⟩:=Hw hcB' hRB;have HQ:Bx (oa p wc (D Aq nq cq) q.ps):=⟨hIQ⟩
   have HK:Bx (oc p wc (D Ab nb cb) bk):=⟨hIB⟩
   have HQw:Bx (aU q.code/\aU q.var):=⟨⟨hq1,hq2⟩⟩
   clear hcP' hRP hxP hcB' hRB hxB hIQ hIB hq1 hq2;go_upto_region 3 with (fail)
   rw[wH]at b0;have hF:=HF.out.drew;have kS:wc.drew.cell? ⟨w.heap.size+1,2,none⟩=some (B C lg)/\wc.drew.cell? ⟨w.heap.size+1,3,none⟩=some (B C (r:Int))/\wc.drew.cell? ⟨w.heap.size,1,none⟩=some (D (some ⟨bP,oP,none⟩) nP cP)/\wc.drew.cell? ⟨w.heap.size,2,none⟩=some (D (some ⟨bB,oB,none⟩) nB cB) /\
    wc.drew.cell? ⟨bP,oP+r*3,none⟩=some (B C q.code)/\wc.drew.cell? ⟨bP,oP+r*3+1,none⟩=some (B C q.var)/\wc.drew.cell? ⟨bP,oP+r*3+2,none⟩=some (D Aq nq cq)/\wc.drew.cell? ⟨bB,oB+r,none⟩=some (D Ab nb cb) :=
    ⟨(hF.at_ 1 rfl).c 2 rfl,(hF.at_ 1 rfl).c 3 rfl,(hF.at_ 0 rfl).c 1 rfl,(hF.at_ 0 rfl).c 2 rfl,p0,p1,p2,b0⟩
   clear p0 p1 p2 b0 hF h0 h1 h2;refine zR 16 (fun w'=>w'.cell? ⟨w.heap.size+1,2,none⟩=some (B C lg)/\w'.cell? ⟨w.heap.size+1,3,none⟩=some (B C (r:Int))/\w'.cell? ⟨w.heap.size,1,none⟩=some (D (some ⟨bP,oP,none⟩) nP cP)/\w'.cell? ⟨w.heap.size,2,none⟩=some (D (some ⟨bB,oB,none⟩) nB cB)/\w'.cell? ⟨bP,oP+r*3,none⟩=some (B C q.code)/\w'.cell? ⟨bP,oP+r*3+1,none⟩=some (B C q.var)/\w'.cell? ⟨bP,oP+r*3+2,none⟩=some (D Aq nq cq)/\w'.cell? ⟨bB,oB+r,none⟩=some (D Ab nb cb)) ?_;refine zS 14 [(0,29),(1,30),(2,31),(3,32),(4,33),(5,34),(6,35),(7,36),(8,37),(9,38),(10,39),(11,40),(12,41),(13,42)] kS ?_;iterate 14 refine zT ?_
   refine zN (zO 14 (fun K hK=>?_));go_simp;refine (ko q.code q.var lg _ _ q.ps bk _ (p:=p) HF.out.drew.lt (HQ.out.ext (bC.stab p) ((zE _).drew)) (HK.out.ext (RI.stab p) ((zE _).drew)) HL5.out).mono ?_;rintro e w2 ⟨v2,rfl,hI2,hx2⟩;obtain⟨A2,n2,c2,rfl,hn2c,hc2,hn2m,HL2⟩:=hI2.open_;have hn2:n2<=120:=by have:=HL2.out;have:=pH q.code q.var q.ps bk lg;omega
   refine hK.out _ _ (fun _=>(⟨hx2.cell kS.1,hx2.cell kS.2.1,hx2.cell kS.2.2.1,hx2.cell kS.2.2.2.1,hx2.cell kS.2.2.2.2.1,hx2.cell kS.2.2.2.2.2.1,hx2.cell kS.2.2.2.2.2.2.1,hx2.cell kS.2.2.2.2.2.2.2⟩)) ?_;clear hK K;try simp only[kA]
   refine zO 15 (fun K hK=>?_);go_simp;refine hK.out _ _ (fun _=>(⟨hx2.cell kS.1,hx2.cell kS.2.1,hx2.cell kS.2.2.1,hx2.cell kS.2.2.2.1,hx2.cell kS.2.2.2.2.1,hx2.cell kS.2.2.2.2.2.1,hx2.cell kS.2.2.2.2.2.2.1,hx2.cell kS.2.2.2.2.2.2.2⟩)) ?_;clear hK K;try simp only[kA]
   refine zO 16 (fun K hK=>?_);go_simp;refine hK.out _ _ (fun h=>absurd rfl h) ?_;clear hK K;refine zD ?_;go_wp2_with fail;go_meet
   exact⟨n2,rfl,hn2,⟨(HF.out.drew.ext hx2).take 0⟩⟩
 case rest =>
 obtain⟨m,rfl,hm,HR⟩:=hcut;clear HF HP HB;go_wp2_with fail;go_loopw [8,9] (fun s8 s9 wr=>∃(k:Nat) (l:List Int),s9=B C k/\k<=m/\l.length=k/\Bx (wr.ownsRow w.heap.size 3 1 s8 l.length (l.map (Value.int .i64))/\(∀x∈l,aU x)/\Fr p w wr [])) (fun _ i _=>m-(intOf i).toNat)
 case atStart=>exact⟨0,[],rfl,by omega,rfl,⟨yZ _ _ _ _,by simp,HR.out⟩⟩
 case round =>
  obtain⟨k,l,rfl,hk,hll,HL⟩:=hrel;clear HR;by_cases hkm:k<m
  ·go_wp2_with fail;refine (dt p _ [0,0,1,8,9,4] _ (HL.out.2.2.tp.ext ((zE _).alloc _)) (ak.lit _ _ HL.out.2.2.lt (by decide) (by decide)) (by simp)).mono ?_;rintro e w2 ⟨v2,rfl,⟨x,rfl,hx⟩,HT2,HX2⟩;have hxb:aU x:=(by decide:∀x∈([0,0,1,8,9,4]:List Int),aU x) x hx;have HX:Bx (XT p _ w2):=⟨((XT.refl _ _).alloc _).trans HX2⟩
   have HT:Bx (bz w2 p):=⟨HT2⟩
   clear HT2 HX2 hx;go_wp2_with (at_builtin;refine aF _ rfl (.tmp 50) (.tmp 54) 22 rfl w.heap.size 3 i0 _ 8 underlying22 hi0 hz0 hz1 hz2 rfl _ _ _ rfl ((dD HL.out.1 HX.out hlt).alloc _) _ _ rfl (by simp;rfl) rfl (by omega) (by omega) (by have:=HL.out.2.2.xt.size;have:=HX.out.size;simp;omega) ?_;intro v' w3 hown hg);go_roundw
   case rel =>
    have h3:Fr p w w3 []:=((HL.out.2.2.step HX.out HT.out).ext ((zE _).alloc _)).grown hg (fun k x h=>by simp at h) (aq HL.out.1);refine⟨k+1,l++[x],by go_num,by omega,by simp;omega,⟨by simpa using hown,?_,h3⟩⟩;intro y hy;rcases zM.1 hy with hy|hy
    ·exact HL.out.2.1 y hy
    ·obtain rfl:y=x:=by simpa using hy
     exact hxb
   case measure=>simp[intOf];omega
  ·obtain rfl:k=m:=by omega
   go_wp2_with fail;refine (fe p 12 _ HL.out.2.2.tp (by omega) (by omega)).mono ?_;rintro e w5 ⟨v5,rfl,⟨b5,rfl⟩,HT5,HX5⟩;have H5:=bx (HL.out.2.2.step HX5 HT5);have HO:Bx (w5.ownsRow w.heap.size 3 1 u8 l.length (l.map (Value.int .i64))/\∀x∈l,aU x):=⟨⟨dD HL.out.1 HX5 hlt,HL.out.2.1⟩⟩
   clear HL HT5 HX5;cases b5 with
   |false =>
    go_wp2_with fail;go_ret
    exact⟨_,rfl,⟨l,HO.out.1,HO.out.2,by omega⟩,H5.out.tp,H5.out.xt⟩
   |true =>
    go_wp2_with fail;refine (az p 0 10 _ H5.out.tp (by omega) (by omega) (by omega) (by omega)).mono ?_;rintro e w6 ⟨v6,rfl,⟨x,rfl,hx1,hx2⟩,HT6,HX6⟩;have H6:=bx (H5.out.step HX6 HT6);have HO6:Bx (w6.ownsRow w.heap.size 3 1 u8 l.length (l.map (Value.int .i64))):=⟨dD HO.out.1 HX6 hlt⟩
    clear HT6 HX6 H5;go_wp2_with (at_builtin;refine aF _ rfl (.tmp 58) (.tmp 61) 22 rfl w.heap.size 3 i0 _ 8 underlying22 hi0 hz0 hz1 hz2 rfl _ _ _ rfl (HO6.out.alloc _) _ _ rfl (by simp;rfl) rfl (by omega) (by omega) (by have:=H6.out.xt.size;simp;omega) ?_;intro v' w7 hown hg);go_ret
    have h7:Fr p w w7 []:=(H6.out.ext ((zE _).alloc _)).grown hg (fun k x h=>by simp at h) (aq HO6.out);refine⟨_,rfl,⟨l++[x],by simpa using hown,?_,by simp;omega⟩,h7.tp,h7.xt⟩;intro y hy;rcases zM.1 hy with hy|hy
    ·exact HO.out.2 y hy
    ·obtain rfl:y=x:=by simpa using hy
     exact⟨by omega,by omega⟩
theorem Eg(s:ByteArray)(w:World):Calls prog 69 #[.string s] w (DD (bl s) w):=by
 have HE0:Bx (ab w (w.alloc (.cells #[B C 0,B C 0,B C 0,B C 0] 45))):=⟨(zE _).alloc _⟩
 go_enter func69,ntmps69
 go_wp2_with fail;refine (tW s _).mono ?_;rintro e w1 ⟨t,k,rfl,hk,ht,hx1⟩;have hbk:=hx1.blk (heap_alloc_new w _);have HX:Bx (ab w w1):=⟨HE0.out.trans hx1⟩
 have HBT:Bx (bl t=jm (bl s)):=⟨ht⟩
 have HK:Bx (k=iM (bl s)):=⟨hk⟩
 have HBK:Bx (w1.heap[w.heap.size]?=some (.cells #[B C 0,B C 0,B C 0,B C 0] 45 (0,0))):=⟨hbk⟩
 clear hx1 ht hk hbk HE0;by_cases hu:k=0
 ·subst hu;have HST:Bx (bd (bl t)=true):=⟨by rw[HBT.out];exact tA HK.out.symm⟩
  go_wp2_with fail;refine (Ej t _).mono ?_;rintro e w2 ⟨A2,n2,c2,k2,rfl,hk2,hi2,hx2⟩;rw[(lD HST.out).2]at hk2;rw[(lD HST.out).1,HBT.out]at hi2;subst hk2;have HI:Bx (ak w2.heap.size w2 (D A2 n2 c2) (bY (jm (bl s)))):=⟨hi2⟩
  replace HX:Bx (ab w w2):=⟨HX.out.trans hx2⟩
  replace HBK:Bx (w2.heap[w.heap.size]?=some (.cells #[B C 0,B C 0,B C 0,B C 0] 45 (0,0))):=⟨hx2.blk HBK.out⟩
  clear hi2 hx2;go_wp2_with fail;refine (zj _ _ _ HI.out).mono ?_;rintro e w3 ⟨A3,n3,c3,d,er,kk,rfl,hi3,hx3,f3,t3⟩;have HDF:Bx (Fy (bY (jm (bl s))) d er kk):=⟨⟨f3,t3⟩⟩
  have HI3:Bx (ak w3.heap.size w3 (D A3 n3 c3) (wI d)):=⟨hi3⟩
  replace HX:Bx (ab w w3):=⟨HX.out.trans hx3⟩
  replace HBK:Bx (w3.heap[w.heap.size]?=some (.cells #[B C 0,B C 0,B C 0,B C 0] 45 (0,0))):=⟨hx3.blk HBK.out⟩
  have HWW:Bx (cD (-1) (bY (jm (bl s)))=true):=⟨mE (by rw[<-HBT.out];exact HST.out)⟩
  clear hi3 hx3 f3 t3 HI;have z0:=ac HBK.out (i:=0) rfl;have z1:=ac HBK.out (i:=1) rfl;have z2:=ac HBK.out (i:=2) rfl;have z3:=ac HBK.out (i:=3) rfl;have f0:=ae HBK.out 0;have f1:=ae HBK.out 1;have f2:=ae HBK.out 2;have f3:=ae HBK.out 3;rcases JT HWW.out HDF.out with ⟨rfl,hl,her0,her6⟩|⟨rfl,hd,he⟩
  ·rw[dc]at hl;obtain⟨b,off,rfl,rfl,hcd⟩:=Ib HI3.out hl;have c0:=hcd 0 (by omega);have c1:=hcd 1 (by omega);have c2:=hcd 2 (by omega);have c3:=hcd 3 (by omega);have c4:=hcd 4 (by omega);have c5:=hcd 5 (by omega);rw[yQ]at c0;clear hcd hl;obtain⟨d0l,d0h⟩:=fT d 0;obtain⟨d1l,d1h⟩:=fT d 1;obtain⟨d2l,d2h⟩:=fT d 2;obtain⟨d3l,d3h⟩:=fT d 3;obtain⟨d4l,d4h⟩:=fT d 4;obtain⟨d5l,d5h⟩:=fT d 5;have HCZ:Bx (1024*dz d 1+32*dz d 2+dz d 3=fK d):=⟨rfl⟩
   have HRF:Bx (∀p c g v n k,(9999<fK d->p=0/\c=0/\g=0/\v=0/\n=0/\k=2)->(fK d<=9999->p=dz d 0/\c=fK d/\g=dz d 4/\v=dz d 5/\n=er/\k=0)->iZ (bl s) p c g v n k):=⟨fun p c g v n k g1 g2=>⟨fun h=>absurd HK.out.symm h,fun _=>⟨d,er,0,HDF.out,fun h=>absurd rfl h,fun _=>⟨g1,g2⟩⟩⟩⟩
   generalize dz d 0=x0 at *
   generalize dz d 1=x1 at *
   generalize dz d 2=x2 at *
   generalize dz d 3=x3 at *
   generalize dz d 4=x4 at *
   generalize dz d 5=x5 at *
   generalize fK d=cz at *
   have e1:IntKind.i64.wrap (1024*x1)=1024*x1:=yN _ (by omega);have e2:IntKind.i64.wrap (32*x2)=32*x2:=yN _ (by omega);have e3:IntKind.i64.wrap (1024*x1+32*x2)=1024*x1+32*x2:=yN _ (by omega);have e4:IntKind.i64.wrap (1024*x1+32*x2+x3)=cz:=by rw[yN _ (by omega)];exact HCZ.out
   have hz1:cz<=32767:=by have:=HCZ.out;omega
   have hz0:0<=cz:=by have:=HCZ.out;omega
   clear HI3 HDF HWW HBT HK HST;have hS:w3.drew.cell? ⟨b,off,none⟩=some (B C x0)/\w3.drew.cell? ⟨b,off+1,none⟩=some (B C x1)/\w3.drew.cell? ⟨b,off+2,none⟩=some (B C x2)/\w3.drew.cell? ⟨b,off+3,none⟩=some (B C x3)/\w3.drew.cell? ⟨b,off+4,none⟩=some (B C x4)/\w3.drew.cell? ⟨b,off+5,none⟩=some (B C x5):=⟨c0,c1,c2,c3,c4,c5⟩
   replace hS:=zZ hS;clear c0 c1 c2 c3 c4 c5 z0 z1 z2 z3 f0 f1 f2 f3;go_upto_region 8 with (fail)
   refine zR 24 (fun w'=>w'.cell? ⟨b,off,none⟩=some (B C x0)/\w'.cell? ⟨b,off+1,none⟩=some (B C x1)/\w'.cell? ⟨b,off+2,none⟩=some (B C x2)/\w'.cell? ⟨b,off+3,none⟩=some (B C x3)/\w'.cell? ⟨b,off+4,none⟩=some (B C x4)/\w'.cell? ⟨b,off+5,none⟩=some (B C x5)) ?_;refine zS 23 [(0,37),(1,38),(2,39),(3,40),(4,41),(5,42),(6,43),(7,44),(8,45),(9,46),(10,47),(11,48),(12,49),(13,50),(14,51),(15,52),(16,53),(17,54),(18,55),(19,56),(20,57),(21,58),(22,59)] hS.out ?_;iterate 23 refine zT ?_
   refine zN (zO 23 (fun K hK=>?_));go_simp;refine hK.out _ _ (fun _=>⟨((zE w3).alloc _).drew.cell hS.out.1,((zE w3).alloc _).drew.cell hS.out.2.1,((zE w3).alloc _).drew.cell hS.out.2.2.1,((zE w3).alloc _).drew.cell hS.out.2.2.2.1,((zE w3).alloc _).drew.cell hS.out.2.2.2.2.1,((zE w3).alloc _).drew.cell hS.out.2.2.2.2.2⟩) ?_;clear hK K;try simp only[kA]
   clear hS;refine zO 24 (fun K hK=>?_);go_simp;refine hK.out _ _ (fun h=>absurd rfl h) ?_;clear hK K;refine zD ?_;clear e1 e2 e3 e4 HCZ;generalize hw4:(w3.alloc (.cells #[B C x0,B C cz,B C x4,B C x5] 45)).drew=w4;have hg:=heap_alloc_new w3 (.cells #[B C x0,B C cz,B C x4,B C x5] 45);have hx4:ab w3 w4:=by rw[<-hw4];exact ((zE _).alloc _).drew
   have hg4:w4.heap[w3.heap.size]?=some (.cells #[B C x0,B C cz,B C x4,B C x5] 45 (0,0)):=by rw[<-hw4];exact hg
   replace HX:Bx (ab w w4):=⟨HX.out.trans hx4⟩
   replace HBK:Bx (w4.heap[w.heap.size]?=some (.cells #[B C 0,B C 0,B C 0,B C 0] 45 (0,0))):=⟨hx4.blk HBK.out⟩
   have y0:=ac hg4 (i:=0) rfl;have y1:=ac hg4 (i:=1) rfl;have y2:=ac hg4 (i:=2) rfl;have y3:=ac hg4 (i:=3) rfl;have HG4:Bx (w4.heap[w3.heap.size]?=some (.cells #[B C x0,B C cz,B C x4,B C x5] 45 (0,0))):=⟨hg4⟩
   clear hw4 hg hx4 hg4;go_wp2_with fail;refine (jJ x0 cz x4 x5 _).mono ?_;rintro e w5 ⟨rfl,hx5⟩;replace HX:Bx (ab w w5):=⟨HX.out.trans hx5⟩
   replace HBK:Bx (w5.heap[w.heap.size]?=some (.cells #[B C 0,B C 0,B C 0,B C 0] 45 (0,0))):=⟨hx5.blk HBK.out⟩
   replace y0:=hx5.cell y0;replace y1:=hx5.cell y1;replace y2:=hx5.cell y2;replace y3:=hx5.cell y3;clear hx5 HG4;have z0:=ac HBK.out (i:=0) rfl;have z1:=ac HBK.out (i:=1) rfl;have z2:=ac HBK.out (i:=2) rfl;have z3:=ac HBK.out (i:=3) rfl;have f0:=ae HBK.out 0;have f1:=ae HBK.out 1;have f2:=ae HBK.out 2;have f3:=ae HBK.out 3;by_cases hcz:9999<cz
   ·have hb:dj x0 cz x4 x5=false:=by unfold dj;exact decide_eq_false (by omega)
    rw[hb];go_wp2_with fail;refine bodyPost_ret (v:=.tuple #[.agg #[B C 0,B C 0,B C 0,B C 0],B C 0,B C 2]) (by simp[results,results69,go_sem,z0,z1,z2,z3]) rfl ⟨0,0,0,0,0,2,rfl,HRF.out _ _ _ _ _ _ (fun _=>⟨rfl,rfl,rfl,rfl,rfl,rfl⟩) (fun h=>by omega),by decide,by decide,by decide,by decide,by decide,by decide,?_⟩;exact (((HX.out.setCell (zX _) _).setCell (zX _) _).setCell (zX _) _).setCell (zX _) _
   ·have hb:dj x0 cz x4 x5=true:=ju.2 (by omega);rw[hb];go_wp2_with fail;refine bodyPost_ret (v:=.tuple #[.agg #[B C x0,B C cz,B C x4,B C x5],B C er,B C 0]) (by simp[results,results69,go_sem,z0,z1,z2,z3]) rfl ⟨x0,cz,x4,x5,er,0,rfl,HRF.out _ _ _ _ _ _ (fun h=>by omega) (fun _=>⟨rfl,rfl,rfl,rfl,rfl,rfl⟩),⟨by omega,by omega⟩,⟨by omega,by omega⟩,⟨by omega,by omega⟩,⟨by omega,by omega⟩,⟨by omega,by omega⟩,by decide,?_⟩;exact (((HX.out.setCell (zX _) _).setCell (zX _) _).setCell (zX _) _).setCell (zX _) _
  ·subst hd;subst he;have HRF:Bx (iZ (bl s) 0 0 0 0 0 25):=⟨⟨fun h=>absurd HK.out.symm h,fun _=>⟨[],0,25,HDF.out,fun _=>⟨rfl,rfl,rfl,rfl,rfl,rfl⟩,fun h=>by omega⟩⟩⟩
   clear HI3 HDF HWW HBT HK HST;go_wp2_with fail;refine bodyPost_ret (v:=.tuple #[.agg #[B C 0,B C 0,B C 0,B C 0],B C 0,B C 25]) (by simp[results,results69,go_sem,z0,z1,z2,z3]) rfl ⟨0,0,0,0,0,25,rfl,HRF.out,by decide,by decide,by decide,by decide,by decide,by decide,?_⟩;exact (((HX.out.setCell (zX _) _).setCell (zX _) _).setCell (zX _) _).setCell (zX _) _
 ·have e1:(k != 0)=true:=bne_iff_ne.2 hu;have HRF:Bx (iZ (bl s) 0 0 0 0 0 k):=⟨⟨fun _=>⟨rfl,rfl,rfl,rfl,rfl,HK.out⟩,fun h=>absurd (HK.out.trans h) hu⟩⟩
  have hk:aU k:=by have:=HK.out;unfold iM at this;constructor<;>(split at this<;>(try split at this)<;>(try split at this)<;>omega)
  have HKI:Bx (aU k):=⟨hk⟩
  have z0:=ac HBK.out (i:=0) rfl;have z1:=ac HBK.out (i:=1) rfl;have z2:=ac HBK.out (i:=2) rfl;have z3:=ac HBK.out (i:=3) rfl;have f0:=ae HBK.out 0;have f1:=ae HBK.out 1;have f2:=ae HBK.out 2;have f3:=ae HBK.out 3;clear HBT HK hk;go_wp2_with fail;refine bodyPost_ret (v:=.tuple #[.agg #[B C 0,B C 0,B C 0,B C 0],B C 0,B C k]) (by simp[results,results69,go_sem,z0,z1,z2,z3]) rfl ⟨0,0,0,0,0,k,rfl,HRF.out,by decide,by decide,by decide,by decide,by decide,HKI.out,?_⟩;exact (((HX.out.setCell (zX _) _).setCell (zX _) _).setCell (zX _) _).setCell (zX _) _
def yj(b:UInt8)(how:Int):UInt8:=if how=1 then 63 else if b=48 then 49 else 48
def sj(l:List UInt8)(k:Int)(how:Int):List UInt8:=if 0<=k/\k<l.length then l.set k.toNat (yj (l.getD k.toNat 0) how) else l
theorem Gp(l:List UInt8)(k how:Int):(sj l k how).length=l.length:=by unfold sj;split<;>simp
theorem IR{l:List UInt8}{k:Nat}{x:UInt8}(how:Int)(h:l[k]?=some x):sj l (k:Int) how=l.take k++[yj x how]++l.drop (k+1):=by have hk:=(zY.1 h).1;unfold sj;rw[if_pos (by omega),yC,xU,h,Option.getD_some,List.set_eq_take_append_cons_drop,if_pos hk];simp
theorem BI{l:List UInt8}{k:Int}(how:Int)(h:¬(0<=k/\k<l.length)):sj l k how=l:=by unfold sj;rw[if_neg h]
theorem ub{s:ByteArray}{k:Nat}(hk:k<s.size)(b:UInt8):bl (s.extract 0 k++⟨#[b]⟩++s.extract (k+1) s.size)=(bl s).take k++[b]++(bl s).drop (k+1):=by rw[pj,pj,sJ,lF];rfl
theorem Cz(s:ByteArray)(at_ how:Int)(w:World)(hs:s.size<=1000000) :
  Calls prog 104 #[.string s,B C at_,B C how] w fun e w'=>∃t,e=.returned (.string t)/\bl t=sj (bl s) at_ how/\ab w w':=by
 by_cases h0:0<=at_
 ·obtain⟨k,rfl⟩:=zG h0;clear h0;by_cases hk:k<s.size
  ·have HC:Bx (sj (bl s) (k:Int) how=(bl s).take k++[yj s[k] how]++(bl s).drop (k+1)):=⟨IR how (nJ hk)⟩
   have e1:IntKind.i64.wrap ((k:Int)+1)=(k:Int)+1:=yN _ (by omega);have e2:((k:Int)+1).toNat=k+1:=by omega
   have s1:(s.extract 0 k).size<=1000000:=by rw[<-aO,sJ,yW,aO];omega
   have s2:(s.extract (k+1) s.size).size<=1000000:=by rw[<-aO,lF,wD,aO];omega
   have d1:decide ((k:Int)<0)=false:=by simp
   have d2:decide ((s.size:Int)<=(k:Int))=false:=by simp;omega
   have d3:(0:Int)<=(k:Int)+1:=by omega
   have d4:(k:Int)+1<=(s.size:Int):=by omega
   by_cases hh:how=1
   ·subst hh;have HB:Bx (yj s[k] 1=63):=⟨rfl⟩
    by_cases h48:(s[k].toNat:Int)=48
    ·go_enter func104,ntmps104
     go_wp2_with fail;go_quiet (fail)
     go_wp2_with fail;go_ret
     exact⟨_,rfl,by rw[ub hk,HC.out,HB.out],(zE _).drewN _⟩
    ·go_enter func104,ntmps104
     go_wp2_with fail;go_quiet (fail)
     go_wp2_with fail;go_ret
     exact⟨_,rfl,by rw[ub hk,HC.out,HB.out],(zE _).drewN _⟩
   ·have q1:(how==1)=false:=beq_eq_false_iff_ne.2 hh;by_cases h48:(s[k].toNat:Int)=48
    ·have HB:Bx (yj s[k] how=49):=⟨by unfold yj;rw[if_neg hh,if_pos (UInt8.toNat_inj.1 (show s[k].toNat=(48:UInt8).toNat by simp;omega))]⟩
     clear hh;go_enter func104,ntmps104
     go_wp2_with fail;go_quiet (fail)
     go_wp2_with fail;go_ret
     exact⟨_,rfl,by rw[ub hk,HC.out,HB.out],(zE _).drewN _⟩
    ·have HB:Bx (yj s[k] how=48):=⟨by unfold yj;rw[if_neg hh,if_neg (fun e=>h48 (by rw[e];rfl))]⟩
     clear hh;go_enter func104,ntmps104
     go_wp2_with fail;go_quiet (fail)
     go_wp2_with fail;go_ret
     exact⟨_,rfl,by rw[ub hk,HC.out,HB.out],(zE _).drewN _⟩
  ·have HC:Bx (sj (bl s) (k:Int) how=bl s):=⟨BI how (by rw[aO];omega)⟩
   have d1:decide ((k:Int)<0)=false:=by simp
   have d2:decide ((s.size:Int)<=(k:Int))=true:=by simp;omega
   go_enter func104,ntmps104
   go_wp2_with fail;go_ret
   exact⟨_,rfl,HC.out.symm,zE _⟩
 ·have HC:Bx (sj (bl s) at_ how=bl s):=⟨BI how (by rw[aO];omega)⟩
  have d1:decide (at_<0)=true:=by simp;omega
  go_enter func104,ntmps104
  go_wp2_with fail;go_ret
  exact⟨_,rfl,HC.out.symm,zE _⟩
theorem C7(p:Nat)(s:ByteArray)(most:Int)(w:World)(h:bz w p)(hs:s.size<=1000)(hm:0<=most)(hm':most<=1000) :
  Calls prog 66 #[.pointer (some ⟨p,0,none⟩),.string s,B C most] w (iN p w fun v _=>∃t,v=.string t/\t.size<=s.size/\s.size<=t.size):=by
 have H:Bx (bz w p):=⟨h⟩
 clear h;go_enter func66,ntmps66
 go_wp2_with fail;refine (az p _ _ _ H.out (by omega) (by omega) (by omega) (by omega)).mono ?_;rintro e w1 ⟨v1,rfl,⟨r,rfl,hr1,hr2⟩,HT1,HX1⟩;obtain⟨r,rfl⟩:=zG hr1;have HB1:Bx (bz w1 p/\XT p w w1):=⟨⟨HT1,HX1⟩⟩
 clear HT1 HX1;go_wp2_with fail;go_loopw [1,7] (fun v i wr=>∃(k:Nat) (t:ByteArray),i=B C k/\k<=r/\v=.string t/\t.size<=s.size/\s.size<=t.size/\Bx (bz wr p/\XT p w wr)) (fun _ i _=>(intOf i).toNat)
 case atStart=>exact⟨r,s,rfl,zX _,rfl,zX _,zX _,HB1⟩
 case round =>
  obtain⟨k,t,rfl,hk,rfl,ht1,ht2,HB⟩:=hrel;clear HB1;by_cases hk0:0<k
  ·go_wp2_with fail;refine (am p _ _ HB.out.1 (by omega)).mono ?_;rintro e w2 ⟨v2,rfl,⟨a,rfl,ha1,ha2⟩,HT2,HX2⟩;go_wp2_with fail;refine (am p 2 _ HT2 (by omega)).mono ?_;rintro e w3 ⟨v3,rfl,⟨b,rfl,hb1,hb2⟩,HT3,HX3⟩;go_wp2_with fail;refine (Cz t a b _ (by omega)).mono ?_;rintro e w4 ⟨t4,rfl,ht4,hx4⟩;have hz:t4.size=t.size:=by rw[<-aO,ht4,Gp,aO]
   have hz1:t4.size<=s.size:=by omega
   have hz2:s.size<=t4.size:=by omega
   have HB4:Bx (bz w4 p/\XT p w w4):=⟨⟨HT3.ext hx4,((HB.out.2.trans HX2).trans HX3).ext hx4⟩⟩
   clear hz ht4 hx4 HT3 HX3 HT2 HX2 HB;go_wp2_with fail;go_roundw
   case rel=>exact⟨k-1,t4,by congr;omega,by omega,rfl,hz1,hz2,HB4⟩
   case measure=>simp[intOf];omega
  ·obtain rfl:k=0:=by omega
   go_wp2_with fail;go_ret
   exact⟨_,rfl,⟨t,rfl,ht1,ht2⟩,HB.out.1,HB.out.2⟩
def be(wx:World)(b:Nat):Nat->List Value->World
 |_,[]=>wx
 |i,v::vs=>be (wx.setCell ⟨b,i,none⟩ v) b (i+1) vs
def dJ(cs:Array Value):Nat->List Value->Array Value
 |_,[]=>cs
 |i,v::vs=>dJ (cs.setIfInBounds i v) (i+1) vs
theorem Fr.sets{L:BL}(h:Fr p w wx L)(k:Nat)(hk:L[k]?=some (b,cs,t))(i:Nat)(vs:List Value):Fr p w (be wx b i vs) (L.set k (b,dJ cs i vs,t)):=by
 induction vs generalizing wx cs L i with
 |nil =>
  obtain⟨hl,e⟩:=zY.1 hk;have:L.set k (b,cs,t)=L:=by rw[<-e];exact uM hl
  unfold be dJ;rw[this];exact h
 |cons v vs ih =>
  have h1:=h.set k hk i v;have hl:=(zY.1 hk).1;have h2:=ih h1 (by rw[wU hl]) (i+1);rw[List.set_set]at h2;exact h2
theorem aA.sets{L:BL}(h:aA w wx L)(k:Nat)(hk:L[k]?=some (b,cs,t))(i:Nat)(vs:List Value):aA w (be wx b i vs) (L.set k (b,dJ cs i vs,t)):=by
 induction vs generalizing wx cs L i with
 |nil =>
  obtain⟨hl,e⟩:=zY.1 hk;have:L.set k (b,cs,t)=L:=by rw[<-e];exact uM hl
  unfold be dJ;rw[this];exact h
 |cons v vs ih =>
  have h1:=h.set k hk i v;have hl:=(zY.1 hk).1;have h2:=ih h1 (by rw[wU hl]) (i+1);rw[List.set_set]at h2;exact h2
theorem nD:∀(vs:List Value) (cs:Array Value) (i k:Nat),(dJ cs i vs)[k]?=if i<=k/\k<i+vs.length/\k<cs.size then vs[k-i]? else cs[k]?
 |[],cs,i,k=>by rw[if_neg (by simp;omega)];rfl
 |v::vs,cs,i,k=>by
  unfold dJ;rw[nD vs,vV,uN,xQ];by_cases h:i=k
  ·subst h;rw[if_neg (by omega)];by_cases h2:i<cs.size
   ·rw[if_pos rfl,if_pos h2,if_pos (by omega)];simp
   ·rw[if_pos rfl,if_neg h2,if_neg (by omega)];exact (wY (by omega)).symm
  ·by_cases h2:i+1<=k/\k<i+1+vs.length/\k<cs.size
   ·rw[if_pos h2,if_pos (by omega),show k-i=(k-(i+1))+1 by omega];rfl
   ·rw[if_neg h2,if_neg h,if_neg (by omega)]
theorem tt{vs:List Value}(h:vs.length=cs.size):dJ cs 0 vs=vs.toArray:=by
 apply Array.ext_getElem?;intro k;rw[nD];by_cases h2:k<cs.size
 ·rw[if_pos (by omega)];simp
 ·rw[if_neg (by omega),wY (by omega)];exact (wY (by simp;omega)).symm
theorem Fr.setAll{L:BL}(h:Fr p w wx L)(k:Nat)(hk:L[k]?=some (b,cs,t))(vs:List Value)(hl:vs.length=cs.size):Fr p w (be wx b 0 vs) (L.set k (b,vs.toArray,t)):=by have:=h.sets k hk 0 vs;rwa [tt hl]at this
theorem aA.setAll{L:BL}(h:aA w wx L)(k:Nat)(hk:L[k]?=some (b,cs,t))(vs:List Value)(hl:vs.length=cs.size):aA w (be wx b 0 vs) (L.set k (b,vs.toArray,t)):=by have:=h.sets k hk 0 vs;rwa [tt hl]at this
theorem eZ{base:Nat}{v:Value}{ch:List Int}(h:fu wx base v ch)(hb:Bk wx b cs t)(ht:t≠3)(i:Nat)(vs:List Value):fu (be wx b i vs) base v ch:=by
 induction vs generalizing wx cs i with
 |nil=>exact h
 |cons u vs ih=>exact ih (h.far hb ht i u) (hb.set i u) (i+1)
def K5(base:Nat)(seq:Int)(v:Value)(w:World):Prop:=∃(t s ct:Int) (b:ByteArray) (A:Option Addr) (c:Nat) (ch:List Int),
 v=.agg #[B C t,B C s,B C seq,B C 1,.string b,B C ct,D A ch.length c,B C 0,B C 0,B C 0,B C 0,B C 0,B C 0] /\
 0<=t/\t<=24/\1<=s/\s<=2/\0<=ct/\ct<=2/\b.size<=1000/\fu w base (D A ch.length c) ch
theorem AK(p c g v:Int):(ym p c g v).length<=1000:=by
 unfold ym;split
 ·rw[ph (kK _ _ _ _)];omega
 ·simp
theorem nR(p:Nat)(v:Value)(s:dl)(l:cJ)(seq:Int)(w:World)(h:bz w p)(hs:aR p w v s)(hl:l.wf)(hq:aU seq) :
  Calls prog 27 #[.pointer (some ⟨p,0,none⟩),v,l.val,B C seq] w (iN p w (K5 w.heap.size seq)):=by
 have HS0:=hs;obtain⟨vP,vB,vX,rfl,hP,hB,hX,hnum⟩:=hs;obtain⟨AP,nP,cP,rfl,-⟩:=hP.open_;obtain⟨AB,nB,cB,rfl,-⟩:=hB.open_;obtain⟨AX,nX,cX,rfl,-⟩:=hX.open_;obtain⟨lp,lc,lg,lv⟩:=l;have HLW:Bx (cJ.wf ⟨lp,lc,lg,lv⟩):=⟨hl⟩
 have hlt:=h.lt;have hv:cJ.val ⟨lp,lc,lg,lv⟩=.agg #[B C lp,B C lc,B C lg,B C lv]:=rfl;rw[hv];obtain⟨w1,hw1⟩:=nm ((((w.alloc (.cells #[B C s.num,D AP nP cP,D AB nB cB,D AX nX cX] 27)).alloc (.cells #[B C lp,B C lc,B C lg,B C lv] 45)).alloc (.cells #[B C 0,B C 0,B C 0,B C 0,.string ⟨#[]⟩,B C 0,D none 0 0,B C 0,B C 0,B C 0,B C 0,B C 0,B C 0] 47)):World);have HF:Bx (Fr p w w1 [(w.heap.size,#[B C s.num,D AP nP cP,D AB nB cB,D AX nX cX],27),(w.heap.size+1,#[B C lp,B C lc,B C lg,B C lv],45),(w.heap.size+2,#[B C 0,B C 0,B C 0,B C 0,.string ⟨#[]⟩,B C 0,D none 0 0,B C 0,B C 0,B C 0,B C 0,B C 0,B C 0],47)]):=⟨by rw[hw1];exact (((Fr.start h).push _ _ rfl).push _ _ (by simp)).push _ _ (by simp)⟩
 have HSit:Bx (aR p w1 (.agg #[B C s.num,D AP nP cP,D AB nB cB,D AX nX cX]) s):=⟨by rw[hw1];exact HS0.ext ((((zE _).alloc _).alloc _).alloc _)⟩
 clear hv hl hP hB hX hnum HS0 h;obtain⟨l0,l1,l2,l3⟩:=(HF.out.at_ 1 rfl).p4 rfl;go_enter func27,ntmps27
 go_upto_region 1 with (fail)
 rw[<-hw1];clear hw1;go_wp2_with fail;refine (sX lp lc lg lv _).mono ?_;rintro e w2 ⟨b,k,rfl,-,hb,hx2⟩;have hbs:b.size<=1000:=by rw[<-aO,hb];exact AK _ _ _ _
 have HF2:=bx (HF.out.ext hx2);have HSit2:=bx (HSit.out.ext hx2);clear HF HSit hx2 hb l0 l1 l2 l3;go_upto_region 2 with (fail)
 go_cut [11] (fun s11 wx=>∃(g:Nat) (t s' ct:Int) (A:Option Addr) (n c:Nat) (ch:List Int),s11=.pointer (some ⟨g,0,none⟩)/\0<=t/\t<=24/\1<=s'/\s'<=2/\0<=ct/\ct<=2/\Bx (fu wx w.heap.size (D A n c) ch/\Fr p w wx [(w.heap.size,#[B C s.num,D AP nP cP,D AB nB cB,D AX nX cX],27),(w.heap.size+1,#[B C lp,B C lc,B C lg,B C lv],45),(w.heap.size+2,#[B C 0,B C 0,B C 0,B C 0,.string ⟨#[]⟩,B C 0,D none 0 0,B C 0,B C 0,B C 0,B C 0,B C 0,B C 0],47),(g,#[B C t,B C s',B C seq,B C 1,.string b,B C ct,D A n c,B C 0,B C 0,B C 0,B C 0,B C 0,B C 0],47)]))
 case first =>
  refine zR 15 (fun w'=>w'.cell? ⟨w.heap.size,0,none⟩=some (B C s.num)/\w'.cell? ⟨w.heap.size,1,none⟩=some (D AP nP cP)/\w'.cell? ⟨w.heap.size,2,none⟩=some (D AB nB cB)/\w'.cell? ⟨w.heap.size,3,none⟩=some (D AX nX cX)/\w'.cell? ⟨w.heap.size+1,0,none⟩=some (B C lp)/\w'.cell? ⟨w.heap.size+1,1,none⟩=some (B C lc)/\w'.cell? ⟨w.heap.size+1,2,none⟩=some (B C lg)/\w'.cell? ⟨w.heap.size+1,3,none⟩=some (B C lv)) ?_;obtain⟨wd,hwd⟩:=nm (w2.drew:World);have hxd:ab w2 wd:=by rw[hwd];exact (zE _).drew
  have HF0:=bx (HF2.out.ext hxd);have HI0:=bx (HSit2.out.ext hxd);rw[<-hwd];clear hwd hxd;have kS0:wd.cell? ⟨w.heap.size,0,none⟩=some (B C s.num)/\wd.cell? ⟨w.heap.size,1,none⟩=some (D AP nP cP)/\wd.cell? ⟨w.heap.size,2,none⟩=some (D AB nB cB)/\wd.cell? ⟨w.heap.size,3,none⟩=some (D AX nX cX)/\wd.cell? ⟨w.heap.size+1,0,none⟩=some (B C lp)/\wd.cell? ⟨w.heap.size+1,1,none⟩=some (B C lc)/\wd.cell? ⟨w.heap.size+1,2,none⟩=some (B C lg)/\wd.cell? ⟨w.heap.size+1,3,none⟩=some (B C lv):=⟨(HF0.out.at_ 0 rfl).c 0 rfl,(HF0.out.at_ 0 rfl).c 1 rfl,(HF0.out.at_ 0 rfl).c 2 rfl,(HF0.out.at_ 0 rfl).c 3 rfl,(HF0.out.at_ 1 rfl).c 0 rfl,(HF0.out.at_ 1 rfl).c 1 rfl,(HF0.out.at_ 1 rfl).c 2 rfl,(HF0.out.at_ 1 rfl).c 3 rfl⟩
  refine zS 8 [(0,17),(2,19),(4,21),(6,23),(7,24),(9,26),(10,27),(11,28)] kS0 ?_;iterate 8 refine zT ?_
  refine zN (an 1 14 (by kernel_rfl) rfl rfl (fun K hK=>?_) (fun K hK=>?_))
  ·go_simp;refine (az p 0 24 _ HF0.out.tp (by omega) (by omega) (by omega) (by omega)).mono ?_;rintro e wq1 ⟨v1,rfl,⟨t,rfl,ht1,ht2⟩,HT1,HX1⟩;have HF1:=bx (HF0.out.step HX1 HT1);have HI1:=bx (HI0.out.xt HX1);have kS1:wq1.cell? ⟨w.heap.size,0,none⟩=some (B C s.num)/\wq1.cell? ⟨w.heap.size,1,none⟩=some (D AP nP cP)/\wq1.cell? ⟨w.heap.size,2,none⟩=some (D AB nB cB)/\wq1.cell? ⟨w.heap.size,3,none⟩=some (D AX nX cX)/\wq1.cell? ⟨w.heap.size+1,0,none⟩=some (B C lp)/\wq1.cell? ⟨w.heap.size+1,1,none⟩=some (B C lc)/\wq1.cell? ⟨w.heap.size+1,2,none⟩=some (B C lg)/\wq1.cell? ⟨w.heap.size+1,3,none⟩=some (B C lv):=⟨(HF1.out.at_ 0 rfl).c 0 rfl,(HF1.out.at_ 0 rfl).c 1 rfl,(HF1.out.at_ 0 rfl).c 2 rfl,(HF1.out.at_ 0 rfl).c 3 rfl,(HF1.out.at_ 1 rfl).c 0 rfl,(HF1.out.at_ 1 rfl).c 1 rfl,(HF1.out.at_ 1 rfl).c 2 rfl,(HF1.out.at_ 1 rfl).c 3 rfl⟩
   clear HF0 HI0 kS0 HX1 HT1;refine hK.out _ _ (fun _=>(kS1)) ?_;clear hK K;try simp only[kA]
   refine an 3 14 (by kernel_rfl) rfl rfl (fun K hK=>?_) (fun K hK=>?_)
   ·go_simp;refine (az p 1 2 _ HF1.out.tp (by omega) (by omega) (by omega) (by omega)).mono ?_;rintro e wq2 ⟨v2,rfl,⟨s',rfl,hs1,hs2⟩,HT2,HX2⟩;have HF2:=bx (HF1.out.step HX2 HT2);have HI2:=bx (HI1.out.xt HX2);have kS2:wq2.cell? ⟨w.heap.size,0,none⟩=some (B C s.num)/\wq2.cell? ⟨w.heap.size,1,none⟩=some (D AP nP cP)/\wq2.cell? ⟨w.heap.size,2,none⟩=some (D AB nB cB)/\wq2.cell? ⟨w.heap.size,3,none⟩=some (D AX nX cX)/\wq2.cell? ⟨w.heap.size+1,0,none⟩=some (B C lp)/\wq2.cell? ⟨w.heap.size+1,1,none⟩=some (B C lc)/\wq2.cell? ⟨w.heap.size+1,2,none⟩=some (B C lg)/\wq2.cell? ⟨w.heap.size+1,3,none⟩=some (B C lv):=⟨(HF2.out.at_ 0 rfl).c 0 rfl,(HF2.out.at_ 0 rfl).c 1 rfl,(HF2.out.at_ 0 rfl).c 2 rfl,(HF2.out.at_ 0 rfl).c 3 rfl,(HF2.out.at_ 1 rfl).c 0 rfl,(HF2.out.at_ 1 rfl).c 1 rfl,(HF2.out.at_ 1 rfl).c 2 rfl,(HF2.out.at_ 1 rfl).c 3 rfl⟩
    clear HF1 HI1 kS1 HX2 HT2;refine hK.out _ _ (fun _=>(kS2)) ?_;clear hK K;try simp only[kA]
    refine zS 1 [(5,22)] kS2 ?_;refine zT ?_;refine zN (an 8 14 (by kernel_rfl) rfl rfl (fun K hK=>?_) (fun K hK=>?_))
    ·go_simp;refine (am p 3 _ HF2.out.tp (by omega)).mono ?_;rintro e wq3 ⟨v3,rfl,⟨ct,rfl,hc1,hc2⟩,HT3,HX3⟩;have HF3:=bx (HF2.out.step HX3 HT3);have HI3:=bx (HI2.out.xt HX3);have kS3:wq3.cell? ⟨w.heap.size,0,none⟩=some (B C s.num)/\wq3.cell? ⟨w.heap.size,1,none⟩=some (D AP nP cP)/\wq3.cell? ⟨w.heap.size,2,none⟩=some (D AB nB cB)/\wq3.cell? ⟨w.heap.size,3,none⟩=some (D AX nX cX)/\wq3.cell? ⟨w.heap.size+1,0,none⟩=some (B C lp)/\wq3.cell? ⟨w.heap.size+1,1,none⟩=some (B C lc)/\wq3.cell? ⟨w.heap.size+1,2,none⟩=some (B C lg)/\wq3.cell? ⟨w.heap.size+1,3,none⟩=some (B C lv):=⟨(HF3.out.at_ 0 rfl).c 0 rfl,(HF3.out.at_ 0 rfl).c 1 rfl,(HF3.out.at_ 0 rfl).c 2 rfl,(HF3.out.at_ 0 rfl).c 3 rfl,(HF3.out.at_ 1 rfl).c 0 rfl,(HF3.out.at_ 1 rfl).c 1 rfl,(HF3.out.at_ 1 rfl).c 2 rfl,(HF3.out.at_ 1 rfl).c 3 rfl⟩
     clear HF2 HI2 kS2 HX3 HT3;refine hK.out _ _ (fun _=>(kS3)) ?_;clear hK K;try simp only[kA]
     refine an 12 14 (by kernel_rfl) rfl rfl (fun K hK=>?_) (fun K hK=>?_)
     ·go_simp;refine (fJ p _ s ⟨lp,lc,lg,lv⟩ _ HF3.out.tp HI3.out HLW.out).mono ?_;rintro e wq4 ⟨v4,rfl,⟨ch,hch4⟩,HT4,HX4⟩;obtain⟨A,c,rfl⟩:=hch4.form;have HC4:Bx (fu wq4 w.heap.size (D A ch.length c) ch):=⟨hch4.base_ (by have:=HF3.out.xt.size;omega)⟩
      clear hch4;have HF4:=bx (HF3.out.step HX4 HT4);have HI4:=bx (HI3.out.xt HX4);have kS4:wq4.cell? ⟨w.heap.size,0,none⟩=some (B C s.num)/\wq4.cell? ⟨w.heap.size,1,none⟩=some (D AP nP cP)/\wq4.cell? ⟨w.heap.size,2,none⟩=some (D AB nB cB)/\wq4.cell? ⟨w.heap.size,3,none⟩=some (D AX nX cX)/\wq4.cell? ⟨w.heap.size+1,0,none⟩=some (B C lp)/\wq4.cell? ⟨w.heap.size+1,1,none⟩=some (B C lc)/\wq4.cell? ⟨w.heap.size+1,2,none⟩=some (B C lg)/\wq4.cell? ⟨w.heap.size+1,3,none⟩=some (B C lv):=⟨(HF4.out.at_ 0 rfl).c 0 rfl,(HF4.out.at_ 0 rfl).c 1 rfl,(HF4.out.at_ 0 rfl).c 2 rfl,(HF4.out.at_ 0 rfl).c 3 rfl,(HF4.out.at_ 1 rfl).c 0 rfl,(HF4.out.at_ 1 rfl).c 1 rfl,(HF4.out.at_ 1 rfl).c 2 rfl,(HF4.out.at_ 1 rfl).c 3 rfl⟩
      clear HF3 HI3 kS3 HX4 HT4;refine hK.out _ _ (fun _=>(kS4)) ?_;clear hK K;try simp only[kA]
      refine zS 1 [(13,30)] kS4 ?_;refine zT ?_;refine zN (zO 14 (fun K hK=>?_));go_simp;obtain⟨wq5,hwq5⟩:=nm ((wq4.alloc (.cells #[B C 0,B C 0,B C 0,B C 0,.string ⟨#[]⟩,B C 0,D none 0 0,B C 0,B C 0,B C 0,B C 0,B C 0,B C 0] 47)):World);have hx5:ab wq4 wq5:=by rw[hwq5];exact (zE _).alloc _
      obtain⟨g5,hg5⟩:=nm wq4.heap.size;have HF5:Bx (Fr p w wq5 [(w.heap.size,#[B C s.num,D AP nP cP,D AB nB cB,D AX nX cX],27),(w.heap.size+1,#[B C lp,B C lc,B C lg,B C lv],45),(w.heap.size+2,#[B C 0,B C 0,B C 0,B C 0,.string ⟨#[]⟩,B C 0,D none 0 0,B C 0,B C 0,B C 0,B C 0,B C 0,B C 0],47),(g5,#[B C 0,B C 0,B C 0,B C 0,.string ⟨#[]⟩,B C 0,D none 0 0,B C 0,B C 0,B C 0,B C 0,B C 0,B C 0],47)]):=⟨by rw[hwq5];exact HF4.out.push _ _ hg5.symm⟩
      have HI5:=bx (HI4.out.ext hx5);have HC5:=bx (HC4.out.ext hx5);rw[<-hwq5,<-hg5];clear hwq5 hg5 hx5;have kS5:wq5.cell? ⟨w.heap.size,0,none⟩=some (B C s.num)/\wq5.cell? ⟨w.heap.size,1,none⟩=some (D AP nP cP)/\wq5.cell? ⟨w.heap.size,2,none⟩=some (D AB nB cB)/\wq5.cell? ⟨w.heap.size,3,none⟩=some (D AX nX cX)/\wq5.cell? ⟨w.heap.size+1,0,none⟩=some (B C lp)/\wq5.cell? ⟨w.heap.size+1,1,none⟩=some (B C lc)/\wq5.cell? ⟨w.heap.size+1,2,none⟩=some (B C lg)/\wq5.cell? ⟨w.heap.size+1,3,none⟩=some (B C lv):=⟨(HF5.out.at_ 0 rfl).c 0 rfl,(HF5.out.at_ 0 rfl).c 1 rfl,(HF5.out.at_ 0 rfl).c 2 rfl,(HF5.out.at_ 0 rfl).c 3 rfl,(HF5.out.at_ 1 rfl).c 0 rfl,(HF5.out.at_ 1 rfl).c 1 rfl,(HF5.out.at_ 1 rfl).c 2 rfl,(HF5.out.at_ 1 rfl).c 3 rfl⟩
      clear HF4 HI4 HC4 kS4;refine hK.out _ _ (fun _=>(kS5)) ?_;clear hK K;try simp only[kA]
      refine zO 15 (fun K hK=>?_);obtain⟨z0,z1,z2,z3,z4,z5,z6,z7,z8,z9,z10,z11,z12⟩:=(HF5.out.at_ 3 rfl).p13 rfl;have f0:=(HF5.out.at_ 3 rfl).froz;have f1:=f0;have f2:=f0;have f3:=f0;have f4:=f0;have f5:=f0;have f6:=f0;have f7:=f0;have f8:=f0;have f9:=f0;have f10:=f0;have f11:=f0;have f12:=f0;go_simp;refine hK.out _ _ (fun h=>absurd rfl h) ?_;clear hK K;refine zD ?_;go_wp2_with fail;go_meet
      exact⟨g5,t,s',ct,A,ch.length,c,ch,rfl,ht1,ht2,hs1,hs2,hc1,by omega,⟨(eZ HC5.out (HF5.out.at_ 3 rfl) (by decide) 0 [B C t,B C s',B C seq,B C 1,.string b,B C ct,D A ch.length c,B C 0,B C 0,B C 0,B C 0,B C 0,B C 0]),HF5.out.setAll 3 rfl [B C t,B C s',B C seq,B C 1,.string b,B C ct,D A ch.length c,B C 0,B C 0,B C 0,B C 0,B C 0,B C 0] rfl⟩⟩
     ·go_simp;obtain⟨wq6,hwq6⟩:=nm ((wq3.alloc (.cells #[B C 0,B C 0,B C 0,B C 0,.string ⟨#[]⟩,B C 0,D none 0 0,B C 0,B C 0,B C 0,B C 0,B C 0,B C 0] 47)):World);have hx6:ab wq3 wq6:=by rw[hwq6];exact (zE _).alloc _
      obtain⟨g6,hg6⟩:=nm wq3.heap.size;have HF6:Bx (Fr p w wq6 [(w.heap.size,#[B C s.num,D AP nP cP,D AB nB cB,D AX nX cX],27),(w.heap.size+1,#[B C lp,B C lc,B C lg,B C lv],45),(w.heap.size+2,#[B C 0,B C 0,B C 0,B C 0,.string ⟨#[]⟩,B C 0,D none 0 0,B C 0,B C 0,B C 0,B C 0,B C 0,B C 0],47),(g6,#[B C 0,B C 0,B C 0,B C 0,.string ⟨#[]⟩,B C 0,D none 0 0,B C 0,B C 0,B C 0,B C 0,B C 0,B C 0],47)]):=⟨by rw[hwq6];exact HF3.out.push _ _ hg6.symm⟩
      have HI6:=bx (HI3.out.ext hx6);rw[<-hwq6,<-hg6];clear hwq6 hg6 hx6;have kS6:wq6.cell? ⟨w.heap.size,0,none⟩=some (B C s.num)/\wq6.cell? ⟨w.heap.size,1,none⟩=some (D AP nP cP)/\wq6.cell? ⟨w.heap.size,2,none⟩=some (D AB nB cB)/\wq6.cell? ⟨w.heap.size,3,none⟩=some (D AX nX cX)/\wq6.cell? ⟨w.heap.size+1,0,none⟩=some (B C lp)/\wq6.cell? ⟨w.heap.size+1,1,none⟩=some (B C lc)/\wq6.cell? ⟨w.heap.size+1,2,none⟩=some (B C lg)/\wq6.cell? ⟨w.heap.size+1,3,none⟩=some (B C lv):=⟨(HF6.out.at_ 0 rfl).c 0 rfl,(HF6.out.at_ 0 rfl).c 1 rfl,(HF6.out.at_ 0 rfl).c 2 rfl,(HF6.out.at_ 0 rfl).c 3 rfl,(HF6.out.at_ 1 rfl).c 0 rfl,(HF6.out.at_ 1 rfl).c 1 rfl,(HF6.out.at_ 1 rfl).c 2 rfl,(HF6.out.at_ 1 rfl).c 3 rfl⟩
      clear HF3 HI3 kS3;refine hK.out _ _ (fun _=>(kS6)) ?_;clear hK K;try simp only[kA]
      refine zO 12 (fun K hK=>?_);go_simp;refine (fJ p _ s ⟨lp,lc,lg,lv⟩ _ HF6.out.tp HI6.out HLW.out).mono ?_;rintro e wq7 ⟨v7,rfl,⟨ch,hch7⟩,HT7,HX7⟩;obtain⟨A,c,rfl⟩:=hch7.form;have HC7:Bx (fu wq7 w.heap.size (D A ch.length c) ch):=⟨hch7.base_ (by have:=HF6.out.xt.size;omega)⟩
      clear hch7;have HI7:=bx (HI6.out.xt HX7);have HF7:=bx (HF6.out.step HX7 HT7);have kS7:wq7.cell? ⟨w.heap.size,0,none⟩=some (B C s.num)/\wq7.cell? ⟨w.heap.size,1,none⟩=some (D AP nP cP)/\wq7.cell? ⟨w.heap.size,2,none⟩=some (D AB nB cB)/\wq7.cell? ⟨w.heap.size,3,none⟩=some (D AX nX cX)/\wq7.cell? ⟨w.heap.size+1,0,none⟩=some (B C lp)/\wq7.cell? ⟨w.heap.size+1,1,none⟩=some (B C lc)/\wq7.cell? ⟨w.heap.size+1,2,none⟩=some (B C lg)/\wq7.cell? ⟨w.heap.size+1,3,none⟩=some (B C lv):=⟨(HF7.out.at_ 0 rfl).c 0 rfl,(HF7.out.at_ 0 rfl).c 1 rfl,(HF7.out.at_ 0 rfl).c 2 rfl,(HF7.out.at_ 0 rfl).c 3 rfl,(HF7.out.at_ 1 rfl).c 0 rfl,(HF7.out.at_ 1 rfl).c 1 rfl,(HF7.out.at_ 1 rfl).c 2 rfl,(HF7.out.at_ 1 rfl).c 3 rfl⟩
      clear HI6 HF6 kS6 HX7 HT7;refine hK.out _ _ (fun _=>(kS7)) ?_;clear hK K;try simp only[kA]
      refine zS 1 [(13,30)] kS7 ?_;refine zT ?_;refine zN (zO 15 (fun K hK=>?_));obtain⟨z0,z1,z2,z3,z4,z5,z6,z7,z8,z9,z10,z11,z12⟩:=(HF7.out.at_ 3 rfl).p13 rfl;have f0:=(HF7.out.at_ 3 rfl).froz;have f1:=f0;have f2:=f0;have f3:=f0;have f4:=f0;have f5:=f0;have f6:=f0;have f7:=f0;have f8:=f0;have f9:=f0;have f10:=f0;have f11:=f0;have f12:=f0;go_simp;refine hK.out _ _ (fun h=>absurd rfl h) ?_;clear hK K;refine zD ?_;go_wp2_with fail;go_meet
      exact⟨g6,t,s',ct,A,ch.length,c,ch,rfl,ht1,ht2,hs1,hs2,hc1,by omega,⟨(eZ HC7.out (HF7.out.at_ 3 rfl) (by decide) 0 [B C t,B C s',B C seq,B C 1,.string b,B C ct,D A ch.length c,B C 0,B C 0,B C 0,B C 0,B C 0,B C 0]),HF7.out.setAll 3 rfl [B C t,B C s',B C seq,B C 1,.string b,B C ct,D A ch.length c,B C 0,B C 0,B C 0,B C 0,B C 0,B C 0] rfl⟩⟩
    ·go_simp;obtain⟨wq8,hwq8⟩:=nm ((wq2.alloc (.cells #[B C 0,B C 0,B C 0,B C 0,.string ⟨#[]⟩,B C 0,D none 0 0,B C 0,B C 0,B C 0,B C 0,B C 0,B C 0] 47)):World);have hx8:ab wq2 wq8:=by rw[hwq8];exact (zE _).alloc _
     obtain⟨g8,hg8⟩:=nm wq2.heap.size;have HF8:Bx (Fr p w wq8 [(w.heap.size,#[B C s.num,D AP nP cP,D AB nB cB,D AX nX cX],27),(w.heap.size+1,#[B C lp,B C lc,B C lg,B C lv],45),(w.heap.size+2,#[B C 0,B C 0,B C 0,B C 0,.string ⟨#[]⟩,B C 0,D none 0 0,B C 0,B C 0,B C 0,B C 0,B C 0,B C 0],47),(g8,#[B C 0,B C 0,B C 0,B C 0,.string ⟨#[]⟩,B C 0,D none 0 0,B C 0,B C 0,B C 0,B C 0,B C 0,B C 0],47)]):=⟨by rw[hwq8];exact HF2.out.push _ _ hg8.symm⟩
     have HI8:=bx (HI2.out.ext hx8);rw[<-hwq8,<-hg8];clear hwq8 hg8 hx8;have kS8:wq8.cell? ⟨w.heap.size,0,none⟩=some (B C s.num)/\wq8.cell? ⟨w.heap.size,1,none⟩=some (D AP nP cP)/\wq8.cell? ⟨w.heap.size,2,none⟩=some (D AB nB cB)/\wq8.cell? ⟨w.heap.size,3,none⟩=some (D AX nX cX)/\wq8.cell? ⟨w.heap.size+1,0,none⟩=some (B C lp)/\wq8.cell? ⟨w.heap.size+1,1,none⟩=some (B C lc)/\wq8.cell? ⟨w.heap.size+1,2,none⟩=some (B C lg)/\wq8.cell? ⟨w.heap.size+1,3,none⟩=some (B C lv):=⟨(HF8.out.at_ 0 rfl).c 0 rfl,(HF8.out.at_ 0 rfl).c 1 rfl,(HF8.out.at_ 0 rfl).c 2 rfl,(HF8.out.at_ 0 rfl).c 3 rfl,(HF8.out.at_ 1 rfl).c 0 rfl,(HF8.out.at_ 1 rfl).c 1 rfl,(HF8.out.at_ 1 rfl).c 2 rfl,(HF8.out.at_ 1 rfl).c 3 rfl⟩
     clear HF2 HI2 kS2;refine hK.out _ _ (fun _=>(kS8)) ?_;clear hK K;try simp only[kA]
     refine zO 8 (fun K hK=>?_);go_simp;refine (am p 3 _ HF8.out.tp (by omega)).mono ?_;rintro e wq9 ⟨v9,rfl,⟨ct,rfl,hc1,hc2⟩,HT9,HX9⟩;have HI9:=bx (HI8.out.xt HX9);have HF9:=bx (HF8.out.step HX9 HT9);have kS9:wq9.cell? ⟨w.heap.size,0,none⟩=some (B C s.num)/\wq9.cell? ⟨w.heap.size,1,none⟩=some (D AP nP cP)/\wq9.cell? ⟨w.heap.size,2,none⟩=some (D AB nB cB)/\wq9.cell? ⟨w.heap.size,3,none⟩=some (D AX nX cX)/\wq9.cell? ⟨w.heap.size+1,0,none⟩=some (B C lp)/\wq9.cell? ⟨w.heap.size+1,1,none⟩=some (B C lc)/\wq9.cell? ⟨w.heap.size+1,2,none⟩=some (B C lg)/\wq9.cell? ⟨w.heap.size+1,3,none⟩=some (B C lv):=⟨(HF9.out.at_ 0 rfl).c 0 rfl,(HF9.out.at_ 0 rfl).c 1 rfl,(HF9.out.at_ 0 rfl).c 2 rfl,(HF9.out.at_ 0 rfl).c 3 rfl,(HF9.out.at_ 1 rfl).c 0 rfl,(HF9.out.at_ 1 rfl).c 1 rfl,(HF9.out.at_ 1 rfl).c 2 rfl,(HF9.out.at_ 1 rfl).c 3 rfl⟩
     clear HI8 HF8 kS8 HX9 HT9;refine hK.out _ _ (fun _=>(kS9)) ?_;clear hK K;try simp only[kA]
     refine zO 12 (fun K hK=>?_);go_simp;refine (fJ p _ s ⟨lp,lc,lg,lv⟩ _ HF9.out.tp HI9.out HLW.out).mono ?_;rintro e wq10 ⟨v10,rfl,⟨ch,hch10⟩,HT10,HX10⟩;obtain⟨A,c,rfl⟩:=hch10.form;have HC10:Bx (fu wq10 w.heap.size (D A ch.length c) ch):=⟨hch10.base_ (by have:=HF9.out.xt.size;omega)⟩
     clear hch10;have HI10:=bx (HI9.out.xt HX10);have HF10:=bx (HF9.out.step HX10 HT10);have kS10:wq10.cell? ⟨w.heap.size,0,none⟩=some (B C s.num)/\wq10.cell? ⟨w.heap.size,1,none⟩=some (D AP nP cP)/\wq10.cell? ⟨w.heap.size,2,none⟩=some (D AB nB cB)/\wq10.cell? ⟨w.heap.size,3,none⟩=some (D AX nX cX)/\wq10.cell? ⟨w.heap.size+1,0,none⟩=some (B C lp)/\wq10.cell? ⟨w.heap.size+1,1,none⟩=some (B C lc)/\wq10.cell? ⟨w.heap.size+1,2,none⟩=some (B C lg)/\wq10.cell? ⟨w.heap.size+1,3,none⟩=some (B C lv):=⟨(HF10.out.at_ 0 rfl).c 0 rfl,(HF10.out.at_ 0 rfl).c 1 rfl,(HF10.out.at_ 0 rfl).c 2 rfl,(HF10.out.at_ 0 rfl).c 3 rfl,(HF10.out.at_ 1 rfl).c 0 rfl,(HF10.out.at_ 1 rfl).c 1 rfl,(HF10.out.at_ 1 rfl).c 2 rfl,(HF10.out.at_ 1 rfl).c 3 rfl⟩
     clear HI9 HF9 kS9 HX10 HT10;refine hK.out _ _ (fun _=>(kS10)) ?_;clear hK K;try simp only[kA]
     refine zS 1 [(13,30)] kS10 ?_;refine zT ?_;refine zN (zO 15 (fun K hK=>?_));obtain⟨z0,z1,z2,z3,z4,z5,z6,z7,z8,z9,z10,z11,z12⟩:=(HF10.out.at_ 3 rfl).p13 rfl;have f0:=(HF10.out.at_ 3 rfl).froz;have f1:=f0;have f2:=f0;have f3:=f0;have f4:=f0;have f5:=f0;have f6:=f0;have f7:=f0;have f8:=f0;have f9:=f0;have f10:=f0;have f11:=f0;have f12:=f0;go_simp;refine hK.out _ _ (fun h=>absurd rfl h) ?_;clear hK K;refine zD ?_;go_wp2_with fail;go_meet
     exact⟨g8,t,s',ct,A,ch.length,c,ch,rfl,ht1,ht2,hs1,hs2,hc1,by omega,⟨(eZ HC10.out (HF10.out.at_ 3 rfl) (by decide) 0 [B C t,B C s',B C seq,B C 1,.string b,B C ct,D A ch.length c,B C 0,B C 0,B C 0,B C 0,B C 0,B C 0]),HF10.out.setAll 3 rfl [B C t,B C s',B C seq,B C 1,.string b,B C ct,D A ch.length c,B C 0,B C 0,B C 0,B C 0,B C 0,B C 0] rfl⟩⟩
   ·go_simp;obtain⟨wq11,hwq11⟩:=nm ((wq1.alloc (.cells #[B C 0,B C 0,B C 0,B C 0,.string ⟨#[]⟩,B C 0,D none 0 0,B C 0,B C 0,B C 0,B C 0,B C 0,B C 0] 47)):World);have hx11:ab wq1 wq11:=by rw[hwq11];exact (zE _).alloc _
    obtain⟨g11,hg11⟩:=nm wq1.heap.size;have HF11:Bx (Fr p w wq11 [(w.heap.size,#[B C s.num,D AP nP cP,D AB nB cB,D AX nX cX],27),(w.heap.size+1,#[B C lp,B C lc,B C lg,B C lv],45),(w.heap.size+2,#[B C 0,B C 0,B C 0,B C 0,.string ⟨#[]⟩,B C 0,D none 0 0,B C 0,B C 0,B C 0,B C 0,B C 0,B C 0],47),(g11,#[B C 0,B C 0,B C 0,B C 0,.string ⟨#[]⟩,B C 0,D none 0 0,B C 0,B C 0,B C 0,B C 0,B C 0,B C 0],47)]):=⟨by rw[hwq11];exact HF1.out.push _ _ hg11.symm⟩
    have HI11:=bx (HI1.out.ext hx11);rw[<-hwq11,<-hg11];clear hwq11 hg11 hx11;have kS11:wq11.cell? ⟨w.heap.size,0,none⟩=some (B C s.num)/\wq11.cell? ⟨w.heap.size,1,none⟩=some (D AP nP cP)/\wq11.cell? ⟨w.heap.size,2,none⟩=some (D AB nB cB)/\wq11.cell? ⟨w.heap.size,3,none⟩=some (D AX nX cX)/\wq11.cell? ⟨w.heap.size+1,0,none⟩=some (B C lp)/\wq11.cell? ⟨w.heap.size+1,1,none⟩=some (B C lc)/\wq11.cell? ⟨w.heap.size+1,2,none⟩=some (B C lg)/\wq11.cell? ⟨w.heap.size+1,3,none⟩=some (B C lv):=⟨(HF11.out.at_ 0 rfl).c 0 rfl,(HF11.out.at_ 0 rfl).c 1 rfl,(HF11.out.at_ 0 rfl).c 2 rfl,(HF11.out.at_ 0 rfl).c 3 rfl,(HF11.out.at_ 1 rfl).c 0 rfl,(HF11.out.at_ 1 rfl).c 1 rfl,(HF11.out.at_ 1 rfl).c 2 rfl,(HF11.out.at_ 1 rfl).c 3 rfl⟩
    clear HF1 HI1 kS1;refine hK.out _ _ (fun _=>(kS11)) ?_;clear hK K;try simp only[kA]
    refine zO 3 (fun K hK=>?_);go_simp;refine (az p 1 2 _ HF11.out.tp (by omega) (by omega) (by omega) (by omega)).mono ?_;rintro e wq12 ⟨v12,rfl,⟨s',rfl,hs1,hs2⟩,HT12,HX12⟩;have HI12:=bx (HI11.out.xt HX12);have HF12:=bx (HF11.out.step HX12 HT12);have kS12:wq12.cell? ⟨w.heap.size,0,none⟩=some (B C s.num)/\wq12.cell? ⟨w.heap.size,1,none⟩=some (D AP nP cP)/\wq12.cell? ⟨w.heap.size,2,none⟩=some (D AB nB cB)/\wq12.cell? ⟨w.heap.size,3,none⟩=some (D AX nX cX)/\wq12.cell? ⟨w.heap.size+1,0,none⟩=some (B C lp)/\wq12.cell? ⟨w.heap.size+1,1,none⟩=some (B C lc)/\wq12.cell? ⟨w.heap.size+1,2,none⟩=some (B C lg)/\wq12.cell? ⟨w.heap.size+1,3,none⟩=some (B C lv):=⟨(HF12.out.at_ 0 rfl).c 0 rfl,(HF12.out.at_ 0 rfl).c 1 rfl,(HF12.out.at_ 0 rfl).c 2 rfl,(HF12.out.at_ 0 rfl).c 3 rfl,(HF12.out.at_ 1 rfl).c 0 rfl,(HF12.out.at_ 1 rfl).c 1 rfl,(HF12.out.at_ 1 rfl).c 2 rfl,(HF12.out.at_ 1 rfl).c 3 rfl⟩
    clear HI11 HF11 kS11 HX12 HT12;refine hK.out _ _ (fun _=>(kS12)) ?_;clear hK K;try simp only[kA]
    refine zS 1 [(5,22)] kS12 ?_;refine zT ?_;refine zN (zO 8 (fun K hK=>?_));go_simp;refine (am p 3 _ HF12.out.tp (by omega)).mono ?_;rintro e wq13 ⟨v13,rfl,⟨ct,rfl,hc1,hc2⟩,HT13,HX13⟩;have HI13:=bx (HI12.out.xt HX13);have HF13:=bx (HF12.out.step HX13 HT13);have kS13:wq13.cell? ⟨w.heap.size,0,none⟩=some (B C s.num)/\wq13.cell? ⟨w.heap.size,1,none⟩=some (D AP nP cP)/\wq13.cell? ⟨w.heap.size,2,none⟩=some (D AB nB cB)/\wq13.cell? ⟨w.heap.size,3,none⟩=some (D AX nX cX)/\wq13.cell? ⟨w.heap.size+1,0,none⟩=some (B C lp)/\wq13.cell? ⟨w.heap.size+1,1,none⟩=some (B C lc)/\wq13.cell? ⟨w.heap.size+1,2,none⟩=some (B C lg)/\wq13.cell? ⟨w.heap.size+1,3,none⟩=some (B C lv):=⟨(HF13.out.at_ 0 rfl).c 0 rfl,(HF13.out.at_ 0 rfl).c 1 rfl,(HF13.out.at_ 0 rfl).c 2 rfl,(HF13.out.at_ 0 rfl).c 3 rfl,(HF13.out.at_ 1 rfl).c 0 rfl,(HF13.out.at_ 1 rfl).c 1 rfl,(HF13.out.at_ 1 rfl).c 2 rfl,(HF13.out.at_ 1 rfl).c 3 rfl⟩
    clear HI12 HF12 kS12 HX13 HT13;refine hK.out _ _ (fun _=>(kS13)) ?_;clear hK K;try simp only[kA]
    refine zO 12 (fun K hK=>?_);go_simp;refine (fJ p _ s ⟨lp,lc,lg,lv⟩ _ HF13.out.tp HI13.out HLW.out).mono ?_;rintro e wq14 ⟨v14,rfl,⟨ch,hch14⟩,HT14,HX14⟩;obtain⟨A,c,rfl⟩:=hch14.form;have HC14:Bx (fu wq14 w.heap.size (D A ch.length c) ch):=⟨hch14.base_ (by have:=HF13.out.xt.size;omega)⟩
    clear hch14;have HI14:=bx (HI13.out.xt HX14);have HF14:=bx (HF13.out.step HX14 HT14);have kS14:wq14.cell? ⟨w.heap.size,0,none⟩=some (B C s.num)/\wq14.cell? ⟨w.heap.size,1,none⟩=some (D AP nP cP)/\wq14.cell? ⟨w.heap.size,2,none⟩=some (D AB nB cB)/\wq14.cell? ⟨w.heap.size,3,none⟩=some (D AX nX cX)/\wq14.cell? ⟨w.heap.size+1,0,none⟩=some (B C lp)/\wq14.cell? ⟨w.heap.size+1,1,none⟩=some (B C lc)/\wq14.cell? ⟨w.heap.size+1,2,none⟩=some (B C lg)/\wq14.cell? ⟨w.heap.size+1,3,none⟩=some (B C lv):=⟨(HF14.out.at_ 0 rfl).c 0 rfl,(HF14.out.at_ 0 rfl).c 1 rfl,(HF14.out.at_ 0 rfl).c 2 rfl,(HF14.out.at_ 0 rfl).c 3 rfl,(HF14.out.at_ 1 rfl).c 0 rfl,(HF14.out.at_ 1 rfl).c 1 rfl,(HF14.out.at_ 1 rfl).c 2 rfl,(HF14.out.at_ 1 rfl).c 3 rfl⟩
    clear HI13 HF13 kS13 HX14 HT14;refine hK.out _ _ (fun _=>(kS14)) ?_;clear hK K;try simp only[kA]
    refine zS 1 [(13,30)] kS14 ?_;refine zT ?_;refine zN (zO 15 (fun K hK=>?_));obtain⟨z0,z1,z2,z3,z4,z5,z6,z7,z8,z9,z10,z11,z12⟩:=(HF14.out.at_ 3 rfl).p13 rfl;have f0:=(HF14.out.at_ 3 rfl).froz;have f1:=f0;have f2:=f0;have f3:=f0;have f4:=f0;have f5:=f0;have f6:=f0;have f7:=f0;have f8:=f0;have f9:=f0;have f10:=f0;have f11:=f0;have f12:=f0;go_simp;refine hK.out _ _ (fun h=>absurd rfl h) ?_;clear hK K;refine zD ?_;go_wp2_with fail;go_meet
    exact⟨g11,t,s',ct,A,ch.length,c,ch,rfl,ht1,ht2,hs1,hs2,hc1,by omega,⟨(eZ HC14.out (HF14.out.at_ 3 rfl) (by decide) 0 [B C t,B C s',B C seq,B C 1,.string b,B C ct,D A ch.length c,B C 0,B C 0,B C 0,B C 0,B C 0,B C 0]),HF14.out.setAll 3 rfl [B C t,B C s',B C seq,B C 1,.string b,B C ct,D A ch.length c,B C 0,B C 0,B C 0,B C 0,B C 0,B C 0] rfl⟩⟩
  ·go_simp;obtain⟨wq15,hwq15⟩:=nm ((wd.alloc (.cells #[B C 0,B C 0,B C 0,B C 0,.string ⟨#[]⟩,B C 0,D none 0 0,B C 0,B C 0,B C 0,B C 0,B C 0,B C 0] 47)):World);have hx15:ab wd wq15:=by rw[hwq15];exact (zE _).alloc _
   obtain⟨g15,hg15⟩:=nm wd.heap.size;have HF15:Bx (Fr p w wq15 [(w.heap.size,#[B C s.num,D AP nP cP,D AB nB cB,D AX nX cX],27),(w.heap.size+1,#[B C lp,B C lc,B C lg,B C lv],45),(w.heap.size+2,#[B C 0,B C 0,B C 0,B C 0,.string ⟨#[]⟩,B C 0,D none 0 0,B C 0,B C 0,B C 0,B C 0,B C 0,B C 0],47),(g15,#[B C 0,B C 0,B C 0,B C 0,.string ⟨#[]⟩,B C 0,D none 0 0,B C 0,B C 0,B C 0,B C 0,B C 0,B C 0],47)]):=⟨by rw[hwq15];exact HF0.out.push _ _ hg15.symm⟩
   have HI15:=bx (HI0.out.ext hx15);rw[<-hwq15,<-hg15];clear hwq15 hg15 hx15;have kS15:wq15.cell? ⟨w.heap.size,0,none⟩=some (B C s.num)/\wq15.cell? ⟨w.heap.size,1,none⟩=some (D AP nP cP)/\wq15.cell? ⟨w.heap.size,2,none⟩=some (D AB nB cB)/\wq15.cell? ⟨w.heap.size,3,none⟩=some (D AX nX cX)/\wq15.cell? ⟨w.heap.size+1,0,none⟩=some (B C lp)/\wq15.cell? ⟨w.heap.size+1,1,none⟩=some (B C lc)/\wq15.cell? ⟨w.heap.size+1,2,none⟩=some (B C lg)/\wq15.cell? ⟨w.heap.size+1,3,none⟩=some (B C lv):=⟨(HF15.out.at_ 0 rfl).c 0 rfl,(HF15.out.at_ 0 rfl).c 1 rfl,(HF15.out.at_ 0 rfl).c 2 rfl,(HF15.out.at_ 0 rfl).c 3 rfl,(HF15.out.at_ 1 rfl).c 0 rfl,(HF15.out.at_ 1 rfl).c 1 rfl,(HF15.out.at_ 1 rfl).c 2 rfl,(HF15.out.at_ 1 rfl).c 3 rfl⟩
   clear HF0 HI0 kS0;refine hK.out _ _ (fun _=>(kS15)) ?_;clear hK K;try simp only[kA]
   refine zO 1 (fun K hK=>?_);go_simp;refine (az p 0 24 _ HF15.out.tp (by omega) (by omega) (by omega) (by omega)).mono ?_;rintro e wq16 ⟨v16,rfl,⟨t,rfl,ht1,ht2⟩,HT16,HX16⟩;have HI16:=bx (HI15.out.xt HX16);have HF16:=bx (HF15.out.step HX16 HT16);have kS16:wq16.cell? ⟨w.heap.size,0,none⟩=some (B C s.num)/\wq16.cell? ⟨w.heap.size,1,none⟩=some (D AP nP cP)/\wq16.cell? ⟨w.heap.size,2,none⟩=some (D AB nB cB)/\wq16.cell? ⟨w.heap.size,3,none⟩=some (D AX nX cX)/\wq16.cell? ⟨w.heap.size+1,0,none⟩=some (B C lp)/\wq16.cell? ⟨w.heap.size+1,1,none⟩=some (B C lc)/\wq16.cell? ⟨w.heap.size+1,2,none⟩=some (B C lg)/\wq16.cell? ⟨w.heap.size+1,3,none⟩=some (B C lv):=⟨(HF16.out.at_ 0 rfl).c 0 rfl,(HF16.out.at_ 0 rfl).c 1 rfl,(HF16.out.at_ 0 rfl).c 2 rfl,(HF16.out.at_ 0 rfl).c 3 rfl,(HF16.out.at_ 1 rfl).c 0 rfl,(HF16.out.at_ 1 rfl).c 1 rfl,(HF16.out.at_ 1 rfl).c 2 rfl,(HF16.out.at_ 1 rfl).c 3 rfl⟩
   clear HI15 HF15 kS15 HX16 HT16;refine hK.out _ _ (fun _=>(kS16)) ?_;clear hK K;try simp only[kA]
   refine zO 3 (fun K hK=>?_);go_simp;refine (az p 1 2 _ HF16.out.tp (by omega) (by omega) (by omega) (by omega)).mono ?_;rintro e wq17 ⟨v17,rfl,⟨s',rfl,hs1,hs2⟩,HT17,HX17⟩;have HI17:=bx (HI16.out.xt HX17);have HF17:=bx (HF16.out.step HX17 HT17);have kS17:wq17.cell? ⟨w.heap.size,0,none⟩=some (B C s.num)/\wq17.cell? ⟨w.heap.size,1,none⟩=some (D AP nP cP)/\wq17.cell? ⟨w.heap.size,2,none⟩=some (D AB nB cB)/\wq17.cell? ⟨w.heap.size,3,none⟩=some (D AX nX cX)/\wq17.cell? ⟨w.heap.size+1,0,none⟩=some (B C lp)/\wq17.cell? ⟨w.heap.size+1,1,none⟩=some (B C lc)/\wq17.cell? ⟨w.heap.size+1,2,none⟩=some (B C lg)/\wq17.cell? ⟨w.heap.size+1,3,none⟩=some (B C lv):=⟨(HF17.out.at_ 0 rfl).c 0 rfl,(HF17.out.at_ 0 rfl).c 1 rfl,(HF17.out.at_ 0 rfl).c 2 rfl,(HF17.out.at_ 0 rfl).c 3 rfl,(HF17.out.at_ 1 rfl).c 0 rfl,(HF17.out.at_ 1 rfl).c 1 rfl,(HF17.out.at_ 1 rfl).c 2 rfl,(HF17.out.at_ 1 rfl).c 3 rfl⟩
   clear HI16 HF16 kS16 HX17 HT17;refine hK.out _ _ (fun _=>(kS17)) ?_;clear hK K;try simp only[kA]
   refine zS 1 [(5,22)] kS17 ?_;refine zT ?_;refine zN (zO 8 (fun K hK=>?_));go_simp;refine (am p 3 _ HF17.out.tp (by omega)).mono ?_;rintro e wq18 ⟨v18,rfl,⟨ct,rfl,hc1,hc2⟩,HT18,HX18⟩;have HI18:=bx (HI17.out.xt HX18);have HF18:=bx (HF17.out.step HX18 HT18);have kS18:wq18.cell? ⟨w.heap.size,0,none⟩=some (B C s.num)/\wq18.cell? ⟨w.heap.size,1,none⟩=some (D AP nP cP)/\wq18.cell? ⟨w.heap.size,2,none⟩=some (D AB nB cB)/\wq18.cell? ⟨w.heap.size,3,none⟩=some (D AX nX cX)/\wq18.cell? ⟨w.heap.size+1,0,none⟩=some (B C lp)/\wq18.cell? ⟨w.heap.size+1,1,none⟩=some (B C lc)/\wq18.cell? ⟨w.heap.size+1,2,none⟩=some (B C lg)/\wq18.cell? ⟨w.heap.size+1,3,none⟩=some (B C lv):=⟨(HF18.out.at_ 0 rfl).c 0 rfl,(HF18.out.at_ 0 rfl).c 1 rfl,(HF18.out.at_ 0 rfl).c 2 rfl,(HF18.out.at_ 0 rfl).c 3 rfl,(HF18.out.at_ 1 rfl).c 0 rfl,(HF18.out.at_ 1 rfl).c 1 rfl,(HF18.out.at_ 1 rfl).c 2 rfl,(HF18.out.at_ 1 rfl).c 3 rfl⟩
   clear HI17 HF17 kS17 HX18 HT18;refine hK.out _ _ (fun _=>(kS18)) ?_;clear hK K;try simp only[kA]
   refine zO 12 (fun K hK=>?_);go_simp;refine (fJ p _ s ⟨lp,lc,lg,lv⟩ _ HF18.out.tp HI18.out HLW.out).mono ?_;rintro e wq19 ⟨v19,rfl,⟨ch,hch19⟩,HT19,HX19⟩;obtain⟨A,c,rfl⟩:=hch19.form;have HC19:Bx (fu wq19 w.heap.size (D A ch.length c) ch):=⟨hch19.base_ (by have:=HF18.out.xt.size;omega)⟩
   clear hch19;have HI19:=bx (HI18.out.xt HX19);have HF19:=bx (HF18.out.step HX19 HT19);have kS19:wq19.cell? ⟨w.heap.size,0,none⟩=some (B C s.num)/\wq19.cell? ⟨w.heap.size,1,none⟩=some (D AP nP cP)/\wq19.cell? ⟨w.heap.size,2,none⟩=some (D AB nB cB)/\wq19.cell? ⟨w.heap.size,3,none⟩=some (D AX nX cX)/\wq19.cell? ⟨w.heap.size+1,0,none⟩=some (B C lp)/\wq19.cell? ⟨w.heap.size+1,1,none⟩=some (B C lc)/\wq19.cell? ⟨w.heap.size+1,2,none⟩=some (B C lg)/\wq19.cell? ⟨w.heap.size+1,3,none⟩=some (B C lv):=⟨(HF19.out.at_ 0 rfl).c 0 rfl,(HF19.out.at_ 0 rfl).c 1 rfl,(HF19.out.at_ 0 rfl).c 2 rfl,(HF19.out.at_ 0 rfl).c 3 rfl,(HF19.out.at_ 1 rfl).c 0 rfl,(HF19.out.at_ 1 rfl).c 1 rfl,(HF19.out.at_ 1 rfl).c 2 rfl,(HF19.out.at_ 1 rfl).c 3 rfl⟩
   clear HI18 HF18 kS18 HX19 HT19;refine hK.out _ _ (fun _=>(kS19)) ?_;clear hK K;try simp only[kA]
   refine zS 1 [(13,30)] kS19 ?_;refine zT ?_;refine zN (zO 15 (fun K hK=>?_));obtain⟨z0,z1,z2,z3,z4,z5,z6,z7,z8,z9,z10,z11,z12⟩:=(HF19.out.at_ 3 rfl).p13 rfl;have f0:=(HF19.out.at_ 3 rfl).froz;have f1:=f0;have f2:=f0;have f3:=f0;have f4:=f0;have f5:=f0;have f6:=f0;have f7:=f0;have f8:=f0;have f9:=f0;have f10:=f0;have f11:=f0;have f12:=f0;go_simp;refine hK.out _ _ (fun h=>absurd rfl h) ?_;clear hK K;refine zD ?_;go_wp2_with fail;go_meet
   exact⟨g15,t,s',ct,A,ch.length,c,ch,rfl,ht1,ht2,hs1,hs2,hc1,by omega,⟨(eZ HC19.out (HF19.out.at_ 3 rfl) (by decide) 0 [B C t,B C s',B C seq,B C 1,.string b,B C ct,D A ch.length c,B C 0,B C 0,B C 0,B C 0,B C 0,B C 0]),HF19.out.setAll 3 rfl [B C t,B C s',B C seq,B C 1,.string b,B C ct,D A ch.length c,B C 0,B C 0,B C 0,B C 0,B C 0,B C 0] rfl⟩⟩
 case rest =>
 obtain⟨g,t,s',ct,A,n,c,ch,rfl,ht1,ht2,hs1,hs2,hc1,hc2,HR⟩:=hcut;clear HF2 HSit2;go_wp2_with fail;refine (fe p 5 _ HR.out.2.tp (by omega) (by omega)).mono ?_;rintro e w3 ⟨v3,rfl,⟨b3,rfl⟩,HT3,HX3⟩;have H3:=bx (HR.out.2.step HX3 HT3);have I3:=bx (HR.out.1.xt HX3 hlt);clear HR HT3 HX3;go_upto_if 32 with (fail)
 go_cut [] (fun wx=>∃b':ByteArray,b'.size<=1000/\Bx (fu wx w.heap.size (D A n c) ch/\Fr p w wx [(w.heap.size,#[B C s.num,D AP nP cP,D AB nB cB,D AX nX cX],27),(w.heap.size+1,#[B C lp,B C lc,B C lg,B C lv],45),(w.heap.size+2,#[B C 0,B C 0,B C 0,B C 0,.string ⟨#[]⟩,B C 0,D none 0 0,B C 0,B C 0,B C 0,B C 0,B C 0,B C 0],47),(g,#[B C t,B C s',B C seq,B C 1,.string b',B C ct,D A n c,B C 0,B C 0,B C 0,B C 0,B C 0,B C 0],47)]))
 case first =>
  cases b3 with
  |false =>
   go_wp2_with fail;go_meet
   exact⟨b,hbs,⟨I3.out,H3.out⟩⟩
  |true =>
   have q2:=(H3.out.at_ 3 rfl).c 4 rfl;go_wp2_with fail;refine (pk b _ (by omega)).mono ?_;rintro e w4 ⟨b',rfl,hb',hx4⟩;have hbs':b'.size<=1000:=by rw[<-aO,hb',List.length_reverse,aO];exact hbs
   have H4:=bx (H3.out.ext hx4);have I4:=bx (I3.out.ext hx4);clear H3 I3 hx4 hb' q2;have q2:=(H4.out.at_ 3 rfl).c 4 rfl;have qf:=(H4.out.at_ 3 rfl).froz;go_wp2_with fail;go_meet
   exact⟨b',hbs',⟨I4.out.far (H4.out.at_ 3 rfl) (by decide) 4 _,H4.out.set 3 rfl 4 _⟩⟩
 case rest =>
 obtain⟨b1,hb1,HR⟩:=hcut;clear H3 I3 hbs;go_upto_region 5 with (fail)
 go_cut [43] (fun s43 wx=>∃b':Bool,s43=.bool b'/\Bx (fu wx w.heap.size (D A n c) ch/\Fr p w wx [(w.heap.size,#[B C s.num,D AP nP cP,D AB nB cB,D AX nX cX],27),(w.heap.size+1,#[B C lp,B C lc,B C lg,B C lv],45),(w.heap.size+2,#[B C 0,B C 0,B C 0,B C 0,.string ⟨#[]⟩,B C 0,D none 0 0,B C 0,B C 0,B C 0,B C 0,B C 0,B C 0],47),(g,#[B C t,B C s',B C seq,B C 1,.string b1,B C ct,D A n c,B C 0,B C 0,B C 0,B C 0,B C 0,B C 0],47)]))
 case first =>
  by_cases h0:0<b.size
  ·go_wp2_with fail;refine (fe p 4 _ HR.out.2.tp (by omega) (by omega)).mono ?_;rintro e w5 ⟨v5,rfl,⟨b5,rfl⟩,HT5,HX5⟩;go_wp2_with fail;go_meet
   exact⟨b5,rfl,⟨HR.out.1.xt HX5 hlt,HR.out.2.step HX5 HT5⟩⟩
  ·go_wp2_with fail;go_meet
   exact⟨false,rfl,HR⟩
 case rest =>
 obtain⟨b5,rfl,HR5⟩:=hcut;clear HR;go_upto_if 43 with (fail)
 go_cut [] (fun wx=>∃b':ByteArray,b'.size<=1000/\Bx (fu wx w.heap.size (D A n c) ch/\Fr p w wx [(w.heap.size,#[B C s.num,D AP nP cP,D AB nB cB,D AX nX cX],27),(w.heap.size+1,#[B C lp,B C lc,B C lg,B C lv],45),(w.heap.size+2,#[B C 0,B C 0,B C 0,B C 0,.string ⟨#[]⟩,B C 0,D none 0 0,B C 0,B C 0,B C 0,B C 0,B C 0,B C 0],47),(g,#[B C t,B C s',B C seq,B C 1,.string b',B C ct,D A n c,B C 0,B C 0,B C 0,B C 0,B C 0,B C 0],47)]))
 case first =>
  cases b5 with
  |false =>
   go_wp2_with fail;go_meet
   exact⟨b1,hb1,HR5⟩
  |true =>
   have q4:=(HR5.out.2.at_ 3 rfl).c 4 rfl;go_wp2_with fail;refine (C7 p b1 4 _ HR5.out.2.tp hb1 (by omega) (by omega)).mono ?_;rintro e w6 ⟨v6,rfl,⟨b6,rfl,hs6,_⟩,HT6,HX6⟩;have H6:Bx (fu w6 w.heap.size (D A n c) ch/\Fr p w w6 [(w.heap.size,#[B C s.num,D AP nP cP,D AB nB cB,D AX nX cX],27),(w.heap.size+1,#[B C lp,B C lc,B C lg,B C lv],45),(w.heap.size+2,#[B C 0,B C 0,B C 0,B C 0,.string ⟨#[]⟩,B C 0,D none 0 0,B C 0,B C 0,B C 0,B C 0,B C 0,B C 0],47),(g,#[B C t,B C s',B C seq,B C 1,.string b1,B C ct,D A n c,B C 0,B C 0,B C 0,B C 0,B C 0,B C 0],47)]):=⟨HR5.out.1.xt HX6 hlt,HR5.out.2.step HX6 HT6⟩
   clear HR5 HT6 HX6 q4;have q4:=(H6.out.2.at_ 3 rfl).c 4 rfl;have qf:=(H6.out.2.at_ 3 rfl).froz;go_wp2_with fail;go_meet
   exact⟨b6,by omega,⟨H6.out.1.far (H6.out.2.at_ 3 rfl) (by decide) 4 _,H6.out.2.set 3 rfl 4 _⟩⟩
 case rest =>
 obtain⟨b6,hb6,HR6⟩:=hcut;clear HR5;go_wp2_with fail;refine (fe p 10 _ HR6.out.2.tp (by omega) (by omega)).mono ?_;rintro e w7 ⟨v7,rfl,⟨b7,rfl⟩,HT7,HX7⟩;have H7:Bx (fu w7 w.heap.size (D A n c) ch/\Fr p w w7 [(w.heap.size,#[B C s.num,D AP nP cP,D AB nB cB,D AX nX cX],27),(w.heap.size+1,#[B C lp,B C lc,B C lg,B C lv],45),(w.heap.size+2,#[B C 0,B C 0,B C 0,B C 0,.string ⟨#[]⟩,B C 0,D none 0 0,B C 0,B C 0,B C 0,B C 0,B C 0,B C 0],47),(g,#[B C t,B C s',B C seq,B C 1,.string b6,B C ct,D A n c,B C 0,B C 0,B C 0,B C 0,B C 0,B C 0],47)]):=⟨HR6.out.1.xt HX7 hlt,HR6.out.2.step HX7 HT7⟩
 clear HR6 HT7 HX7;go_upto_if 50 with (fail)
 go_cut [] (fun wx=>∃b':ByteArray,b'.size<=1000/\Bx (fu wx w.heap.size (D A n c) ch/\Fr p w wx [(w.heap.size,#[B C s.num,D AP nP cP,D AB nB cB,D AX nX cX],27),(w.heap.size+1,#[B C lp,B C lc,B C lg,B C lv],45),(w.heap.size+2,#[B C 0,B C 0,B C 0,B C 0,.string ⟨#[]⟩,B C 0,D none 0 0,B C 0,B C 0,B C 0,B C 0,B C 0,B C 0],47),(g,#[B C t,B C s',B C seq,B C 1,.string b',B C ct,D A n c,B C 0,B C 0,B C 0,B C 0,B C 0,B C 0],47)]))
 case first =>
  cases b7 with
  |false =>
   go_wp2_with fail;go_meet
   exact⟨b6,hb6,H7⟩
  |true =>
   have q4:=(H7.out.2.at_ 3 rfl).c 4 rfl;have qf:=(H7.out.2.at_ 3 rfl).froz;go_wp2_with fail;go_meet
   exact⟨⟨#[63]⟩,by decide,⟨H7.out.1.far (H7.out.2.at_ 3 rfl) (by decide) 4 _,H7.out.2.set 3 rfl 4 _⟩⟩
 case rest =>
 obtain⟨b8,hb8,HR8⟩:=hcut;clear H7;obtain⟨q0,q1,q2,q3,q4,q5,q6,q7,q8,q9,q10,q11,q12⟩:=(HR8.out.2.at_ 3 rfl).p13 rfl;obtain⟨z0,z1,z2,z3,z4,z5,z6,z7,z8,z9,z10,z11,z12⟩:=(HR8.out.2.at_ 2 rfl).p13 rfl;have f0:=(HR8.out.2.at_ 2 rfl).froz;have f1:=f0;have f2:=f0;have f3:=f0;have f4:=f0;have f5:=f0;have f6:=f0;have f7:=f0;have f8:=f0;have f9:=f0;have f10:=f0;have f11:=f0;have f12:=f0;go_wp2_with fail;have H9:=HR8.out.2.sets 2 rfl 0 [B C t,B C s',B C seq,B C 1,.string b8,B C ct,D A n c,B C 0,B C 0,B C 0,B C 0,B C 0,B C 0];refine bodyPost_ret (v:=.agg #[B C t,B C s',B C seq,B C 1,.string b8,B C ct,D A n c,B C 0,B C 0,B C 0,B C 0,B C 0,B C 0]) (by simp[results,results27,go_sem,q0,q1,q2,q3,q4,q5,q6,q7,q8,q9,q10,q11,q12,z0,z1,z2,z3,z4,z5,z6,z7,z8,z9,z10,z11,z12]) rfl ?_;have HC9:=eZ HR8.out.1 (HR8.out.2.at_ 2 rfl) (by decide) 0 [B C t,B C s',B C seq,B C 1,.string b8,B C ct,D A n c,B C 0,B C 0,B C 0,B C 0,B C 0,B C 0];obtain⟨A_,c_,he⟩:=HC9.form;injection he with h1 h2 h3;subst h1;subst h2;subst h3;exact⟨_,rfl,⟨t,s',ct,b8,A,c,ch,rfl,ht1,ht2,hs1,hs2,hc1,hc2,hb8,HC9⟩,H9.tp,H9.xt⟩
end Go.Proofs.YtkaajgoeahahpaaGreatDoor

