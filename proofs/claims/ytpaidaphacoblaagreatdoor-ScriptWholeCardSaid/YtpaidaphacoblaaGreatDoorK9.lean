import Derived.Test.YtpaidaphacoblaaGreatDoorK8
set_option linter.all false
set_option maxRecDepth 100000
set_option maxHeartbeats 0
namespace Go.Proofs.YtpaidaphacoblaaGreatDoor
open Go.Value renaming int→B,slice→D
open Go.IntKind renaming i64→C
open Go.RowKit _root_.Go.Proofs.Tryz
variable {b p:Nat} {w:World}
theorem eG(code var:Int)(v vb:Value)(ps:List av)(pgs:List (List Int))(w:World)(h:oa p w v ps)(hb:oc p w vb pgs) :
  Calls prog 59 #[.agg #[B C code,B C var,v],.agg #[vb]] w fun e w'=>e=.returned (.bool (jH code var ps pgs))/\ab w w':=by
 obtain⟨A,n,c,rfl,hnc,hc,hnn,HL⟩:=h.open_;obtain⟨Ab,m,cb,rfl,hmc,hcb,hmm,HM⟩:=hb.open_;have H:=zZ h;have HB:=zZ hb;clear h hb;go_enter func59,ntmps59
 go_wp2_with fail;refine (fc _ _ _ ps _ ((H.out.ext (bC.stab p) ((zE _).alloc _)).ext (bC.stab p) ((zE _).alloc _))).mono ?_;rintro e w1 ⟨rfl,hx1⟩;have HE1:=zZ (ab.trans (((zE w).alloc _).alloc _) hx1);have d0:w1.cell? ⟨w.heap.size+1,0,none⟩=some (D Ab m cb):=hx1.cell (by simp);have b2:w1.cell? ⟨w.heap.size,2,none⟩=some (D A n c):=hx1.cell (by simp);have D0:=zZ d0;have B2:=zZ b2;have HI1:=zZ (H.out.ext (bC.stab p) HE1.out);have HP1:=zZ (HB.out.ext (RI.stab p) HE1.out);clear hx1;cases hv:fD code var ps with
 |false =>
  have HF:=zZ (dE (fun hk=>by have:=hk.1;rw[hv]at this;cases this):jH code var ps pgs=false);clear hv;go_wp2_with fail;go_ret
  exact⟨aa HF.out.symm,HE1.out⟩
 |true =>
 have HV:=zZ hv;have hvp:=mD hv;have hn1:1<=n:=by have:=HL.out;omega
 have hn24:n<=24:=by have:=HL.out;omega
 clear hv hvp;by_cases hm0:m<1
 ·have HF:=zZ (dE (fun hk=>by
   have h5:=hk.2.2.2.2;have:pgs=[]:=xZ (by have:=HM.out;omega);rw[this]at h5;simp[eh]at h5;have:=HL.out;omega):jH code var ps pgs=false)
  go_wp2_with fail;go_ret
  exact⟨aa HF.out.symm,HE1.out⟩
 by_cases hm:m<=12/\m%4=0;case neg =>
  have HF:=zZ (dE (fun hk=>hm (by have h1:=hk.2.1;have h2:=hk.2.2.1;rw[HM.out]at h1 h2;exact⟨h1,h2⟩)):jH code var ps pgs=false);by_cases h12:12<m
  ·clear hm;go_wp2_with fail;go_ret
   exact⟨aa HF.out.symm,HE1.out⟩
  ·have e4:((m:Int)%4 != 0)=true:=by simp;omega
   clear hm;go_wp2_with fail;go_ret
   exact⟨aa HF.out.symm,HE1.out⟩
 case pos =>
 obtain⟨hm12,hm4⟩:=hm;have e4:((m:Int)%4 != 0)=false:=by simp;omega
 have HM4:=zZ hm4;have hm1:0<m:=by omega
 clear hm4 hm0;obtain⟨bb,ob,cs0,l0,rfl,_⟩:=HB.out.at_ hm1;obtain⟨u0,l00,hcu0,hIu0,HX0⟩:=HP1.out.page hm1;obtain⟨Au0,nu0,cu0,rfl,hnu0,hcu0',hnnu0,HLU0⟩:=hIu0.open_;simp only[yQ]at hcu0;by_cases hnz:0<nu0
 ·have HF:=zZ (dE (fun hk=>by have:=hk.2.2.2.1 l00 HX0.out;have h2:=HLU0.out;rw[this]at h2;simp at h2;omega):jH code var ps pgs=false);go_wp2_with fail;go_ret
  exact⟨aa HF.out.symm,HE1.out⟩
 have HZ:Hid (∀l,pgs[0]?=some l->l=[]):=fun l hl=>by rw[HX0.out]at hl;have:=xF hl;subst this;exact xZ (by have:=HLU0.out;omega)
 go_wp2_with fail;clear d0 b2 e4 hcu0 hIu0 hnz;go_loopw [5,6] (fun s5 s30 wr=>∃(i nx:Nat),i<=m/\nx<=n/\s30=B C i/\s5=B C nx/\Hid (kZ code var ps pgs i nx/\ab w1 wr)) (fun _ i _=>m-(intOf i).toNat)
 case atStart=>exact⟨0,0,by omega,by omega,rfl,rfl,kZ.start _ _ _ _,zE _⟩
 case round =>
  obtain⟨wo,rfl⟩:=nm (wr:World);obtain⟨i,nx,hi,hnx,rfl,rfl,HR⟩:=hrel;have d0:=HR.out.2.cell D0.out;by_cases hlt:i<m
  ·obtain⟨u,l,hcu,hIu,HX⟩:=(HP1.out.ext (RI.stab p) HR.out.2).page hlt;obtain⟨Au,nu,cu,rfl,hnu,hcu',hnnu,HLU⟩:=hIu.open_;have HIU:=zZ hIu;have HCU:=zZ hcu;clear hIu;go_wp2_with fail;clear d0 hcu;go_loopw [5,7,8] (fun s5 s8 s44 wr=>∃(k:Nat) (ln:Int),k<=nu/\nx+k<=n/\0<=ln/\ln<=30*k/\s5=B C ((nx:Int)+k)/\s8=B C ln/\s44=B C k/\Hid (ln=nA (ps.map db) nx k/\nf (ps.map db) nx l k/\ab wo wr)) (fun _ _ i _=>nu-(intOf i).toNat)
   case atStart=>exact⟨0,0,by omega,by omega,by omega,by omega,by simp,rfl,rfl,(oN _ _).symm,rN (by have:=HL.out;simp;omega) _,zE _⟩
   case round =>
    obtain⟨k,ln,hk,hnk,hln0,hln1,rfl,rfl,rfl,HQ⟩:=hrel;have HEW:=zZ (HR.out.2.trans HQ.out.2.2);have b2:=HEW.out.cell B2.out;have d0:=HEW.out.cell D0.out;have hcu:=HQ.out.2.2.cell HCU.out;by_cases hklt:k<nu
    ·obtain⟨bu,ou,y,rfl,hcy,HY,hy1,hy2⟩:=(HIU.out.ext HQ.out.2.2).at_ hklt;by_cases hg:y=(nx:Int)+k/\nx+k<n
     ·obtain⟨hye,hnkn⟩:=hg;subst hye;obtain⟨b,off,cs1,q1,rfl,_⟩:=H.out.at_ hnkn;obtain⟨q,c0,c1,c2,c3,c4,c5,hw,HXq⟩:=(HI1.out.ext (bC.stab p) HEW.out).part hnkn;have hnb:=qp q;go_wp2_with fail;refine (sA q _).mono ?_;rintro e w2 ⟨rfl,hx2⟩;clear c0 c1 c2 c3 c4 c5 b2 hcy d0 hcu;generalize hxq:db q=x at *
      have HXN:Hid ((ps.map db)[nx+k]?=some x):=by have:=nY HXq.out;rw[hxq]at this;exact this
      clear hxq;go_wp2_with fail;go_roundw
      case rel=>exact⟨k+1,ln+x,by omega,by omega,by omega,by omega,by go_num,rfl,by go_num,by rw[lx HXN.out,<-HQ.out.1],qK HQ.out.2.1 HY.out (by simp) (by have:=HL.out;simp;omega),HQ.out.2.2.trans hx2⟩
      case measure=>simp[intOf];omega
     ·have HF:=zZ (dE (HR.out.1.bad HX.out (D7 HY.out (by have:=HL.out;simp;omega))):jH code var ps pgs=false);by_cases hnkn:n<=nx+k
      ·clear hg;go_wp2_with fail;go_ret
       exact⟨aa HF.out.symm,HE1.out.trans HEW.out⟩
      ·have e5:(y != (nx:Int)+k)=true:=by simp;omega
       clear hg;go_wp2_with fail;go_ret
       exact⟨aa HF.out.symm,HE1.out.trans HEW.out⟩
    ·obtain rfl:k=nu:=by omega
     by_cases hln:ln<=30
     ·have HOK:Hid (oW (ps.map db) nx l):=⟨by rw[HLU.out];exact HQ.out.2.1,by rw[HLU.out,<-HQ.out.1];exact hln⟩
      go_wp2_with fail;go_roundw
      case rel=>exact⟨i+1,nx+k,by omega,by omega,by go_num,by go_num,by have:=HR.out.1.next HX.out HOK.out;rw[HLU.out]at this;exact this,HEW.out⟩
      case measure=>simp[intOf];omega
     ·have HF:=zZ (dE (HR.out.1.bad HX.out (fun hk=>hln (by have:=hk.2;rw[HLU.out,<-HQ.out.1]at this;exact this))):jH code var ps pgs=false);go_wp2_with fail;go_ret
      exact⟨aa HF.out.symm,HE1.out.trans HEW.out⟩
  ·obtain rfl:i=m:=by omega
   have b2:=HR.out.2.cell B2.out;have HFIN:Hid (decide (nx=n)=jH code var ps pgs):=by
    show decide (nx=n)=jH code var ps pgs
    have hl:=HR.out.1.fin HM.out;rw[HL.out]at hl;by_cases e:nx=n
    ·rw[qh ⟨HV.out,by rw[HM.out];exact hm12,by rw[HM.out];exact HM4.out,HZ.out,hl.2 e⟩];simp[e]
    ·rw[dE (fun hk=>e (hl.1 hk.2.2.2.2))];simp[e]
   go_wp2_with fail;go_ret
   exact⟨aa (by rw[<-HFIN.out,yE];simp;omega),HE1.out.trans HR.out.2⟩
theorem pJ{w1:World}{o o':Obj}{a b c d:Value}{t t':TypeId}(ho:o=.cells #[a,b,c] t)(ho':o'=.cells #[d] t')(h:ab ((w.alloc o).alloc o') w1) :
  w1.cell? ⟨w.heap.size,0,none⟩=some a/\w1.cell? ⟨w.heap.size,1,none⟩=some b/\w1.cell? ⟨w.heap.size,2,none⟩=some c/\w1.cell? ⟨w.heap.size+1,0,none⟩=some d:=by
 subst ho;subst ho';have h1:=Hd (h.blk (((zE _).alloc _).blk (heap_alloc_new w _)));have h2:w1.cell? ⟨w.heap.size+1,0,none⟩=some d:=by have:=h.blk (heap_alloc_new (w.alloc (.cells #[a,b,c] t)) (.cells #[d] t'));have:=ac this (i:=0) rfl;simpa using this
 exact⟨h1.1,h1.2.1,h1.2.2,h2⟩
def td(p:Nat)(w:World)(fs:List lY)(e:Ending)(w':World):Prop:=∃v,e=.returned v/\Lg p w' v fs/\ab w w'
theorem Db(code var page:Int)(v vb:Value)(ps:List av)(pgs:List (List Int))(w:World)(hp:p<w.heap.size)(h:oa p w v ps)(hb:oc p w vb pgs)(hpg:aU page) :
  Calls prog 67 #[.agg #[B C code,B C var,v],.agg #[vb],B C page] w (td p w (dr code var ps pgs page)):=by
 obtain⟨iF,hiF,hy0,hy1,hy2⟩:=info_parts Tryz.infoF;obtain⟨A,n,c,rfl,hnc,hc,hnn,HL⟩:=h.open_;obtain⟨Ab,m,cb,rfl,hmc,hcb,hmm,HM⟩:=hb.open_;obtain⟨hg1,hg2⟩:=hpg;have HE:Hid (ab w ((w.alloc (.cells #[B C code,B C var,D A n c] 64)).alloc (.cells #[D Ab m cb] 61))):=((zE _).alloc _).alloc _;have HQ:=zZ (h.ext (bC.stab p) HE.out);have HP:=zZ (hb.ext (RI.stab p) HE.out);clear h hb;by_cases hin:0<=page/\page<m
 ·obtain⟨hi0,hi1⟩:=hin;obtain⟨j,rfl⟩:=zG hi0;have hjm:j<m:=by omega
  have hkb:=pJ (w:=w) (o:=.cells #[B C code,B C var,D A n c] 64) (o':=.cells #[D Ab m cb] 61) rfl rfl (zE _);replace hkb:=zZ hkb;cases hv:jH code var ps pgs with
  |false =>
   have HF:=zZ (jb (code:=code) (var:=var) (ps:=ps) (pgs:=pgs) (page:=(j:Int)) (by simp[hv]));replace hv:=zZ hv;go_enter func67,ntmps67
   go_wp2_with fail;refine (kY _ _ _ _ ps pgs _ HQ.out HP.out).mono ?_;rintro e w1 ⟨rfl,hx1⟩;rw[hv.out];go_wp2_with fail;go_ret
   exact⟨_,rfl,by rw[HF.out];exact bj.nil _ _ _ _,HE.out.trans hx1⟩
  |true =>
   obtain⟨bb,ob,cs0,pg0,rfl,_⟩:=HP.out.at_ hjm;obtain⟨u0,pg,hcu0,hIu0,HX0⟩:=HP.out.page hjm;have HF:=zZ (gn hv HX0.out);have HPP:=zZ (jL hv HX0.out);have HI64:=zZ (rO hv HX0.out);obtain⟨Ap,np,cp,rfl,_,_,_,HLp⟩:=hIu0.open_;have hnp:np<=24:=by have:=HPP.out.1;have:=HLp.out;omega
   replace hv:=zZ hv;replace hIu0:=zZ hIu0;replace hcu0:=zZ hcu0;go_enter func67,ntmps67
   go_wp2_with fail;refine (kY _ _ _ _ ps pgs _ HQ.out HP.out).mono ?_;rintro e w1 ⟨rfl,hx1⟩;rw[hv.out];replace hx1:=zZ hx1;have hcu:=hx1.out.cell hcu0.out;obtain⟨b0,b1,b2,b3⟩:=pJ (w:=w) rfl rfl hx1.out;have HQ1:=zZ (HQ.out.ext (bC.stab p) hx1.out);have HI1:=zZ (hIu0.out.ext hx1.out);have HE1:=zZ (HE.out.trans hx1.out);have hp1:p<w1.heap.size:=zB hp HE1.out.size;clear HQ HP hIu0 hcu0 HX0 hkb;go_wp2_with fail;go_loopw [7,32] (fun s7 s32 wr=>∃(k:Nat) (fs:List lY),s32=B C k/\k<=np/\fs.length<=5*k/\Hid (fs=dO ps (pg.take k)/\kI w1.heap.size wr s7 fs/\ab w1 wr)) (fun _ i _=>np-(intOf i).toNat)
   case atStart=>exact⟨0,[],rfl,by omega,by simp,by simp[dO],kI.nil _ _,zE _⟩
   case round =>
    obtain⟨k,fs,rfl,hk,hfl,HR⟩:=hrel;clear b0 b1 b2 b3 hcu;by_cases hkn:k<np
    ·obtain⟨b0,b1,b2,b3⟩:=pJ (w:=w) rfl rfl (hx1.out.trans HR.out.2.2);obtain⟨bp,op,x0,rfl,_⟩:=HI1.out.at_ hkn;obtain⟨x,hcx,HX,hx1',hx2'⟩:=(HI1.out.ext HR.out.2.2).cell_ hkn;obtain⟨i,q,hxi,hqi,hi24,hvq⟩:=HPP.out.2 k x HX.out;subst hxi;have hin:i<n:=by have:=(zY.1 hqi).1;have:=HL.out;omega
     obtain⟨bq,oq,cs1,q1,rfl,_⟩:=HQ1.out.at_ hin;obtain⟨q',c0,c1,c2,c3,c4,c5,_,HQq⟩:=(HQ1.out.ext (bC.stab p) HR.out.2.2).part hin;obtain rfl:q'=q:=by have:=HQq.out;rw[hqi]at this;exact (xF this).symm
     have hvo:=k8 hvq;replace hqi:=zZ hqi;replace hvq:=zZ hvq;by_cases hk2:q'.kind=2
     ·have hb2:(q'.kind != 2)=false:=by simp[hk2]
      have ho5:2<=q'.opts/\q'.opts<=5:=by omega
      obtain⟨ho2,ho5⟩:=ho5;obtain⟨oo,hoo⟩:=zG (show 0<=q'.opts by omega);have HPF:Hid (jA ps (i:Int)=(List.range oo).map fun k:Nat=>⟨(i:Int),(k:Int)⟩):=by
       show _=_
       have:=ot hqi.out hk2;rw[hoo]at this;simpa using this
      rw[hoo]at c4 ho2 ho5;clear hvo hk2 hoo;obtain⟨wo,rfl⟩:=nm (wr:World);go_wp2_with fail;go_loopw [7,10,49] (fun s7 s10 s49 wr=>∃(o:Nat) (fs2:List lY),s49=B C o/\o<=oo/\fs2.length<=5*k+o/\Hid (fs2=dO ps (pg.take k)++(List.range o).map (fun k:Nat=>⟨(i:Int),(k:Int)⟩)/\kI w1.heap.size wr s7 fs2/\ab w1 wr)) (fun _ _ i _=>oo-(intOf i).toNat)
      case atStart=>exact⟨0,fs,rfl,by omega,by omega,by simpa using HR.out.1,HR.out.2.1,HR.out.2.2⟩
      case round =>
       obtain⟨o,fs2,rfl,ho,hfl2,HS⟩:=hrel;by_cases hoo':o<oo
       ·go_wp2_with (at_builtin;refine cZ _ rfl (.tmp 52) (.tmp 56) 90 rfl w1.heap.size 135 iF _ 2 16 underlying90 hiF hy0 hy1 hy2 rfl (by omega) _ _ _ rfl (HS.out.2.1.own.alloc _) _ _ _ rfl (heap_alloc_new wr _) rfl (by simp[Value.oneCell']) (by omega) (by omega) (by have:=HS.out.2.2.size;simp;omega) ?_;intro v5 w5 hown5 hg5);go_roundw
        case rel=>exact⟨v5,B C o,B C (o+1),⟨o+1,by go_num,by omega,fs2++[⟨(i:Int),(o:Int)⟩],by simp;omega,by rw[rE,HS.out.1,xY],kI.push hown5,ab.grown (HS.out.2.2.alloc _) hg5 (aq HS.out.2.1.own)⟩,rfl,rfl,rfl⟩
        case measure=>simp[intOf];omega
       ·obtain rfl:o=oo:=by omega
        go_wp2_with fail;go_roundw
        case rel=>exact⟨k+1,fs2,by go_num,by omega,by omega,by rw[lI HX.out,HPF.out];exact HS.out.1,HS.out.2⟩
        case measure=>simp[intOf];omega
     ·have hb2:(q'.kind != 2)=true:=by simp[hk2]
      have HPF:=zZ (qZ hqi.out hk2);clear hvo hk2;go_wp2_with fail;go_roundw
      case rel=>exact⟨k+1,fs,by go_num,by omega,by omega,by rw[lI HX.out,HPF.out,xN];exact HR.out.1,HR.out.2⟩
      case measure=>simp[intOf];omega
    ·obtain rfl:k=np:=by omega
     go_wp2_with fail;go_ret
     refine⟨_,rfl,?_,HE1.out.trans HR.out.2.2⟩;rw[HF.out,<-bh HLp.out,<-HR.out.1];refine HR.out.2.1.isF hp1 ?_;rw[HR.out.1,bh HLp.out];exact HI64.out
 ·have HF:=zZ (jb (code:=code) (var:=var) (ps:=ps) (pgs:=pgs) (page:=page) (by have:=HM.out;rw[this];exact fun h=>hin h.2));have hin':page<0\/(m:Int)<=page:=by omega
  clear hin;by_cases hneg:page<0
  ·clear hin';go_enter func67,ntmps67
   go_wp2_with fail;go_ret
   exact⟨_,rfl,by rw[HF.out];exact bj.nil _ _ _ _,HE.out⟩
  ·have hge:(m:Int)<=page:=by omega
   clear hin';go_enter func67,ntmps67
   go_wp2_with fail;go_ret
   exact⟨_,rfl,by rw[HF.out];exact bj.nil _ _ _ _,HE.out⟩
theorem ko(code var page:Int)(v vb:Value)(ps:List av)(pgs:List (List Int))(w:World)(hp:p<w.heap.size)(h:oa p w v ps)(hb:oc p w vb pgs)(hpg:aU page) :
  Calls prog 27 #[.agg #[B C code,B C var,v],.agg #[vb],B C page] w (td p w (dr code var ps pgs page)):=by
 obtain⟨iF,hiF,hy0,hy1,hy2⟩:=info_parts Tryz.infoF;obtain⟨A,n,c,rfl,hnc,hc,hnn,HL⟩:=h.open_;obtain⟨Ab,m,cb,rfl,hmc,hcb,hmm,HM⟩:=hb.open_;obtain⟨hg1,hg2⟩:=hpg;have HE:Hid (ab w ((w.alloc (.cells #[B C code,B C var,D A n c] 64)).alloc (.cells #[D Ab m cb] 61))):=((zE _).alloc _).alloc _;have HQ:=zZ (h.ext (bC.stab p) HE.out);have HP:=zZ (hb.ext (RI.stab p) HE.out);clear h hb;by_cases hin:0<=page/\page<m
 ·obtain⟨hi0,hi1⟩:=hin;obtain⟨j,rfl⟩:=zG hi0;have hjm:j<m:=by omega
  have hkb:=pJ (w:=w) (o:=.cells #[B C code,B C var,D A n c] 64) (o':=.cells #[D Ab m cb] 61) rfl rfl (zE _);replace hkb:=zZ hkb;cases hv:jH code var ps pgs with
  |false =>
   have HF:=zZ (jb (code:=code) (var:=var) (ps:=ps) (pgs:=pgs) (page:=(j:Int)) (by simp[hv]));replace hv:=zZ hv;go_enter func27,ntmps27
   go_wp2_with fail;refine (eG _ _ _ _ ps pgs _ HQ.out HP.out).mono ?_;rintro e w1 ⟨rfl,hx1⟩;rw[hv.out];go_wp2_with fail;go_ret
   exact⟨_,rfl,by rw[HF.out];exact bj.nil _ _ _ _,HE.out.trans hx1⟩
  |true =>
   obtain⟨bb,ob,cs0,pg0,rfl,_⟩:=HP.out.at_ hjm;obtain⟨u0,pg,hcu0,hIu0,HX0⟩:=HP.out.page hjm;have HF:=zZ (gn hv HX0.out);have HPP:=zZ (jL hv HX0.out);have HI64:=zZ (rO hv HX0.out);obtain⟨Ap,np,cp,rfl,_,_,_,HLp⟩:=hIu0.open_;have hnp:np<=24:=by have:=HPP.out.1;have:=HLp.out;omega
   replace hv:=zZ hv;replace hIu0:=zZ hIu0;replace hcu0:=zZ hcu0;go_enter func27,ntmps27
   go_wp2_with fail;refine (eG _ _ _ _ ps pgs _ HQ.out HP.out).mono ?_;rintro e w1 ⟨rfl,hx1⟩;rw[hv.out];replace hx1:=zZ hx1;have hcu:=hx1.out.cell hcu0.out;obtain⟨b0,b1,b2,b3⟩:=pJ (w:=w) rfl rfl hx1.out;have HQ1:=zZ (HQ.out.ext (bC.stab p) hx1.out);have HI1:=zZ (hIu0.out.ext hx1.out);have HE1:=zZ (HE.out.trans hx1.out);have hp1:p<w1.heap.size:=zB hp HE1.out.size;clear HQ HP hIu0 HX0 hkb;go_wp2_with fail;go_loopw [7,8] (fun s7 s32 wr=>∃(k:Nat) (fs:List lY),s32=B C k/\k<=np/\fs.length<=5*k/\Hid (fs=dO ps (pg.take k)/\kI w1.heap.size wr s7 fs/\ab w1 wr)) (fun _ i _=>np-(intOf i).toNat)
   case atStart=>exact⟨0,[],rfl,by omega,by simp,by simp[dO],kI.nil _ _,zE _⟩
   case round =>
    obtain⟨k,fs,rfl,hk,hfl,HR⟩:=hrel;clear b0 b1 b2 b3 hcu;have hcu:=(hx1.out.trans HR.out.2.2).cell hcu0.out;obtain⟨b0,b1,b2,b3⟩:=pJ (w:=w) rfl rfl (hx1.out.trans HR.out.2.2);by_cases hkn:k<np
    ·skip
     obtain⟨bp,op,x0,rfl,_⟩:=HI1.out.at_ hkn;obtain⟨x,hcx,HX,hx1',hx2'⟩:=(HI1.out.ext HR.out.2.2).cell_ hkn;obtain⟨i,q,hxi,hqi,hi24,hvq⟩:=HPP.out.2 k x HX.out;subst hxi;have hin:i<n:=by have:=(zY.1 hqi).1;have:=HL.out;omega
     obtain⟨bq,oq,cs1,q1,rfl,_⟩:=HQ1.out.at_ hin;obtain⟨q',c0,c1,c2,c3,c4,c5,_,HQq⟩:=(HQ1.out.ext (bC.stab p) HR.out.2.2).part hin;obtain rfl:q'=q:=by have:=HQq.out;rw[hqi]at this;exact (xF this).symm
     have hvo:=k8 hvq;replace hqi:=zZ hqi;replace hvq:=zZ hvq;by_cases hk2:q'.kind=2
     ·have hb2:(q'.kind != 2)=false:=by simp[hk2]
      have ho5:2<=q'.opts/\q'.opts<=5:=by omega
      obtain⟨ho2,ho5⟩:=ho5;obtain⟨oo,hoo⟩:=zG (show 0<=q'.opts by omega);have HPF:Hid (jA ps (i:Int)=(List.range oo).map fun k:Nat=>⟨(i:Int),(k:Int)⟩):=by
       show _=_
       have:=ot hqi.out hk2;rw[hoo]at this;simpa using this
      rw[hoo]at c4 ho2 ho5;have HOO:=zZ hoo;clear hvo hk2 hoo;obtain⟨wo,rfl⟩:=nm (wr:World);go_wp2_with fail;go_loopw [7,10] (fun s7 s49 wr=>∃(o:Nat) (fs2:List lY),s49=B C o/\o<=oo/\fs2.length<=5*k+o/\Hid (fs2=dO ps (pg.take k)++(List.range o).map (fun k:Nat=>⟨(i:Int),(k:Int)⟩)/\kI w1.heap.size wr s7 fs2/\ab w1 wr)) (fun _ i _=>oo-(intOf i).toNat)
      case atStart=>exact⟨0,fs,rfl,by omega,by omega,by simpa using HR.out.1,HR.out.2.1,HR.out.2.2⟩
      case round =>
       obtain⟨o,fs2,rfl,ho,hfl2,HS⟩:=hrel;clear b0 b1 b2 b3 hcu c0 c1 c2 c3 c4 c5 hcx;obtain⟨b0,b1,b2,b3⟩:=pJ (w:=w) rfl rfl (hx1.out.trans HS.out.2.2);obtain⟨q2,c0,c1,c2,c3,c4,c5,_,HQq2⟩:=(HQ1.out.ext (bC.stab p) HS.out.2.2).part hin;obtain rfl:q2=q':=by have:=HQq2.out;rw[hqi.out]at this;exact (xF this).symm
       rw[HOO.out]at c4;by_cases hoo':o<oo
       ·go_wp2_with (at_builtin;refine cZ _ rfl (.tmp 61) (.tmp 65) 90 rfl w1.heap.size 135 iF _ 2 16 underlying90 hiF hy0 hy1 hy2 rfl (by omega) _ _ _ rfl (HS.out.2.1.own.alloc _) _ _ _ rfl (heap_alloc_new wr _) rfl (by simp[Value.oneCell']) (by omega) (by omega) (by have:=HS.out.2.2.size;simp;omega) ?_;intro v5 w5 hown5 hg5);go_roundw
        case rel=>exact⟨o+1,by omega,by omega,fs2++[⟨(i:Int),(o:Int)⟩],by simp;omega,by rw[rE,HS.out.1,xY],kI.push hown5,ab.grown (HS.out.2.2.alloc _) hg5 (aq HS.out.2.1.own)⟩
        case measure=>simp[intOf];omega
       ·obtain rfl:o=oo:=by omega
        go_wp2_with fail;go_roundw
        case rel=>exact⟨k+1,fs2,by go_num,by omega,by omega,by rw[lI HX.out,HPF.out];exact HS.out.1,HS.out.2⟩
        case measure=>simp[intOf];omega
     ·have hb2:(q'.kind != 2)=true:=by simp[hk2]
      have HPF:=zZ (qZ hqi.out hk2);clear hvo hk2;go_wp2_with fail;go_roundw
      case rel=>exact⟨k+1,fs,by go_num,by omega,by omega,by rw[lI HX.out,HPF.out,xN];exact HR.out.1,HR.out.2⟩
      case measure=>simp[intOf];omega
    ·obtain rfl:k=np:=by omega
     go_wp2_with fail;go_ret
     refine⟨_,rfl,?_,HE1.out.trans HR.out.2.2⟩;rw[HF.out,<-bh HLp.out,<-HR.out.1];refine HR.out.2.1.isF hp1 ?_;rw[HR.out.1,bh HLp.out];exact HI64.out
 ·have HF:=zZ (jb (code:=code) (var:=var) (ps:=ps) (pgs:=pgs) (page:=page) (by have:=HM.out;rw[this];exact fun h=>hin h.2));have hin':page<0\/(m:Int)<=page:=by omega
  clear hin;cases hv:jH code var ps pgs with
  |false =>
   replace hv:=zZ hv;clear hin';go_enter func27,ntmps27
   go_wp2_with fail;refine (eG _ _ _ _ ps pgs _ HQ.out HP.out).mono ?_;rintro e w1 ⟨rfl,hx1⟩;rw[hv.out];go_wp2_with fail;go_ret
   exact⟨_,rfl,by rw[HF.out];exact bj.nil _ _ _ _,HE.out.trans hx1⟩
  |true =>
   replace hv:=zZ hv;by_cases hneg:page<0
   ·clear hin';go_enter func27,ntmps27
    go_wp2_with fail;refine (eG _ _ _ _ ps pgs _ HQ.out HP.out).mono ?_;rintro e w1 ⟨rfl,hx1⟩;rw[hv.out];go_wp2_with fail;go_ret
    exact⟨_,rfl,by rw[HF.out];exact bj.nil _ _ _ _,HE.out.trans hx1⟩
   ·have hge:(m:Int)<=page:=by omega
    clear hin';go_enter func27,ntmps27
    go_wp2_with fail;refine (eG _ _ _ _ ps pgs _ HQ.out HP.out).mono ?_;rintro e w1 ⟨rfl,hx1⟩;rw[hv.out];obtain⟨b0,b1,b2,b3⟩:=pJ (w:=w) rfl rfl hx1;go_wp2_with fail;go_ret
    exact⟨_,rfl,by rw[HF.out];exact bj.nil _ _ _ _,HE.out.trans hx1⟩
theorem F5{ps:List av}{pg:List Int}(h:∀x∈pg,∃(j:Nat) (q:av),x=j/\ps[j]?=some q/\q.opts<=5):(dO ps pg).length<=5*pg.length:=by
 induction pg with
 |nil=>simp[dO]
 |cons x pg ih =>
  have h1:=ih fun y hy=>h y (by simp[hy]);obtain⟨j,q,rfl,hq,ho⟩:=h x (by simp);have h2:(jA ps (j:Int)).length<=5:=by
   by_cases hk:q.kind=2
   ·rw[ot hq hk,zJ,wQ];omega
   ·rw[qZ hq hk];simp
  have e:dO ps ((j:Int)::pg)=jA ps (j:Int)++dO ps pg:=by simp[dO]
  rw[e,yU,xQ];omega
theorem pH(code var:Int)(ps:List av)(pgs:List (List Int))(page:Int):(dr code var ps pgs page).length<=120:=by
 unfold dr;split
 ·rename_i h
  cases hp:pgs[page.toNat]? with
  |none=>simp
  |some pg =>
   obtain⟨h1,h2⟩:=jL h.1 hp;have:=F5 (ps:=ps) (pg:=pg) fun x hx=>by obtain⟨k,hk⟩:=zH hx;obtain⟨j,q,e,hq,_,hv⟩:=h2 k x hk;exact⟨j,q,e,hq,by have:=k8 hv;omega⟩
   simp only;omega
 ·simp
theorem GP{off:Nat}{cs:List Value}{x:je}(hc:∀j u,cs[j]?=some u->w.cell? ⟨b,off+j,none⟩=some u)(h:BQ p w cs x) :
  ∃A n c,w.cell? ⟨b,off,none⟩=some (B C x.code)/\w.cell? ⟨b,off+1,none⟩=some (B C x.var)/\w.cell? ⟨b,off+2,none⟩=some (D A n c)/\oa p w (D A n c) x.ps/\aU x.code/\aU x.var:=by
 obtain⟨u,rfl,hq,h1,h2⟩:=h;obtain⟨A,n,c,rfl,_⟩:=hq.open_;exact⟨A,n,c,hc 0 _ rfl,hc 1 _ rfl,hc 2 _ rfl,hq,h1,h2⟩
theorem Hw{off:Nat}{cs:List Value}{x:List (List Int)}(hc:∀j u,cs[j]?=some u->w.cell? ⟨b,off+j,none⟩=some u)(h:JY p w cs x) :
  ∃A n c,w.cell? ⟨b,off,none⟩=some (D A n c)/\oc p w (D A n c) x:=by
 obtain⟨u,rfl,hq⟩:=h;obtain⟨A,n,c,rfl,_⟩:=hq.open_;exact⟨A,n,c,hc 0 _ rfl,hq⟩
def fu(w:World)(base:Nat)(v:Value)(ch:List Int):Prop:=w.ownsRow base 3 1 v ch.length (ch.map (Value.int .i64))/\(∀x∈ch,aU x)/\ch.length<=200
section
variable {p base:Nat} {w w':World} {v:Value} {ch:List Int}
theorem fu.xt(h:fu w base v ch)(hx:XT p w w')(hp:p<base):fu w' base v ch:=⟨dD h.1 hx hp,h.2⟩
theorem fu.ext(h:fu w base v ch)(hx:ab w w'):fu w' base v ch:=⟨ao h.1 hx,h.2⟩
theorem fu.base_(h:fu w base v ch)(hb:b<=base):fu w b v ch:=⟨cd h.1 hb,h.2⟩
theorem fu.isI(h:fu w base v ch)(hp:p<base):ak p w v ch:=ak.of_own h.1 hp h.2.1 (by have:=h.2.2;omega)
theorem fu.form(h:fu w base v ch):∃A c,v=D A ch.length c:=by
 rcases h.1.2 with ⟨e,h0⟩|⟨g,cap,cur,e,_⟩
 ·exact⟨none,0,by rw[e,h0]⟩
 ·exact⟨_,_,e⟩
theorem fu.far{g:Nat}{cs:Array Value}{t:TypeId}(h:fu w base v ch)(hb:Bk w g cs t)(ht:t≠3)(i:Nat)(u:Value):fu (w.setCell ⟨g,i,none⟩ u) base v ch :=
 ⟨aN (a:=⟨g,i,none⟩) h.1 (aG h.1 hb ht) u,h.2⟩
theorem fu.apart{e size n:Nat}{z:Value}{xs:List Value}(h:fu w base v ch)(ho:w.ownsRow b e size z n xs)(he:3≠e)(hg:w.grownBy w' z.ownBlock):fu w' base v ch :=
 ⟨aJ h.1 hg fun k hk e'=>cA h.1 ho he k hk e',h.2⟩
theorem fu.nil(w:World)(base:Nat):fu w base (D none 0 0) []:=⟨yZ _ _ _ _,by simp,by simp⟩
end
theorem fJ(p:Nat)(v:Value)(s:dl)(l:cJ)(w:World)(h:bz w p)(hs:aR p w v s)(hl:l.wf) :
  Calls prog 87 #[.pointer (some ⟨p,0,none⟩),v,l.val] w (iN p w fun v w'=>∃ch,fu w' w.heap.size v ch):=by
 obtain⟨vP,vB,vX,rfl,hP,hB,hX,hnum⟩:=hs;obtain⟨AP,nP,cP,rfl,hnP,hcP,hmP,HLP⟩:=hP.open_;obtain⟨AB,nB,cB,rfl,hnB,hcB,hmB,HLB⟩:=hB.open_;obtain⟨i0,hi0,hz0,hz1,hz2⟩:=info_parts Tryz.infoI;obtain⟨lp,lc,lg,lv⟩:=l;obtain⟨⟨l1,l2⟩,⟨l3,l4⟩,⟨l5,l6⟩,⟨l7,l8⟩⟩:=hl;simp only at l1 l2 l3 l4 l5 l6 l7 l8;have hlt:=h.lt;have HL5:Bx (aU lg):=⟨⟨l5,l6⟩⟩
 obtain⟨w1,hw1⟩:=nm (((w.alloc (.cells #[.int .i64 s.num,D AP nP cP,D AB nB cB,vX] 29)).alloc (.cells #[.int .i64 lp,.int .i64 lc,.int .i64 lg,.int .i64 lv] 39)):World);have HF:Bx (Fr p w w1 [(w.heap.size,#[.int .i64 s.num,D AP nP cP,D AB nB cB,vX],29),(w.heap.size+1,#[.int .i64 lp,.int .i64 lc,.int .i64 lg,.int .i64 lv],39)]):=⟨by rw[hw1];exact ((Fr.start h).push _ _ rfl).push _ _ (by simp)⟩
 have HP:Bx (jg p w1 (D AP nP cP) s.pap):=⟨by rw[hw1];exact hP.ext (BQ.stab p) (((zE _).alloc _).alloc _)⟩
 have HB:Bx (l9 p w1 (D AB nB cB) s.bk):=⟨by rw[hw1];exact hB.ext (JY.stab p) (((zE _).alloc _).alloc _)⟩
 have hv:cJ.val ⟨lp,lc,lg,lv⟩=.agg #[.int .i64 lp,.int .i64 lc,.int .i64 lg,.int .i64 lv]:=rfl;rw[hv];clear h hP hB hX hv hnum;go_enter func87,ntmps87
 go_upto_region 2 with (fail)
 rw[<-hw1];clear hw1;go_cut [28] (fun s28 wx=>∃b:Bool,s28=.bool b/\Hid (b=true->0<=lv/\lv<nP/\lv<nB)/\wx=w1)
 case first =>
  have c3:=(HF.out.at_ 1 rfl).c 3 rfl;have c1:=(HF.out.at_ 0 rfl).c 1 rfl;have c2:=(HF.out.at_ 0 rfl).c 2 rfl;by_cases h0:0<=lv
  ·by_cases h1:lv<nP
   ·by_cases h2:lv<nB
    ·go_wp2_with fail;go_meet
     exact⟨true,rfl,fun _=>⟨h0,h1,h2⟩,rfl⟩
    ·go_wp2_with fail;go_meet
     exact⟨false,rfl,(fun h=>by cases h),rfl⟩
   ·go_wp2_with fail;go_meet
    exact⟨false,rfl,(fun h=>by cases h),rfl⟩
  ·go_wp2_with fail;go_meet
   exact⟨false,rfl,(fun h=>by cases h),rfl⟩
 case rest =>
 obtain⟨b,rfl,HB28,hwc⟩:=hcut;subst hwc;go_upto_if 28 with (fail)
 go_cut [7] (fun s7 wx=>∃m:Nat,s7=.int .i64 m/\m<=120/\Bx (Fr p w wx []))
 case first =>
  cases b with
  |false =>
   go_wp2_with fail;go_meet
   exact⟨0,rfl,by omega,⟨HF.out.take 0⟩⟩
  |true =>
   obtain⟨h0,h1,h2⟩:=HB28.out rfl;obtain⟨r,rfl⟩:=zG h0;have hrP:r<nP:=by omega
   have hrB:r<nB:=by omega
   obtain⟨bP,oP,_,_,rfl,-⟩:=HP.out.at_ hrP;obtain⟨bB,oB,_,_,rfl,-⟩:=HB.out.at_ hrB;obtain⟨csP,q,-,hcP',hRP,hxP⟩:=HP.out.cell_ hrP;obtain⟨csB,bk,-,hcB',hRB,hxB⟩:=HB.out.cell_ hrB;obtain⟨Aq,nq,cq,p0,p1,p2,hIQ,hq1,hq2⟩:=GP hcP' hRP;obtain⟨Ab,nb,cb,b0,hIB⟩:=Hw hcB' hRB;have HQ:Bx (oa p wc (D Aq nq cq) q.ps):=⟨hIQ⟩
   have HK:Bx (oc p wc (D Ab nb cb) bk):=⟨hIB⟩
   have HQw:Bx (aU q.code/\aU q.var):=⟨⟨hq1,hq2⟩⟩
   clear hcP' hRP hxP hcB' hRB hxB hIQ hIB hq1 hq2;go_upto_region 3 with (fail)
   rw[wH]at b0;have hF:=HF.out.drew;have kS:wc.drew.cell? ⟨w.heap.size+1,2,none⟩=some (.int .i64 lg)/\wc.drew.cell? ⟨w.heap.size+1,3,none⟩=some (.int .i64 (r:Int))/\wc.drew.cell? ⟨w.heap.size,1,none⟩=some (D (some ⟨bP,oP,none⟩) nP cP)/\wc.drew.cell? ⟨w.heap.size,2,none⟩=some (D (some ⟨bB,oB,none⟩) nB cB) /\
    wc.drew.cell? ⟨bP,oP+r*3,none⟩=some (.int .i64 q.code)/\wc.drew.cell? ⟨bP,oP+r*3+1,none⟩=some (.int .i64 q.var)/\wc.drew.cell? ⟨bP,oP+r*3+2,none⟩=some (D Aq nq cq)/\wc.drew.cell? ⟨bB,oB+r,none⟩=some (D Ab nb cb) :=
    ⟨(hF.at_ 1 rfl).c 2 rfl,(hF.at_ 1 rfl).c 3 rfl,(hF.at_ 0 rfl).c 1 rfl,(hF.at_ 0 rfl).c 2 rfl,p0,p1,p2,b0⟩
   clear p0 p1 p2 b0 hF h0 h1 h2;refine zR 16 (fun w'=>w'.cell? ⟨w.heap.size+1,2,none⟩=some (.int .i64 lg)/\w'.cell? ⟨w.heap.size+1,3,none⟩=some (.int .i64 (r:Int))/\w'.cell? ⟨w.heap.size,1,none⟩=some (D (some ⟨bP,oP,none⟩) nP cP)/\w'.cell? ⟨w.heap.size,2,none⟩=some (D (some ⟨bB,oB,none⟩) nB cB)/\w'.cell? ⟨bP,oP+r*3,none⟩=some (.int .i64 q.code)/\w'.cell? ⟨bP,oP+r*3+1,none⟩=some (.int .i64 q.var)/\w'.cell? ⟨bP,oP+r*3+2,none⟩=some (D Aq nq cq)/\w'.cell? ⟨bB,oB+r,none⟩=some (D Ab nb cb)) ?_;refine zS 14 [(0,29),(1,30),(2,31),(3,32),(4,33),(5,34),(6,35),(7,36),(8,37),(9,38),(10,39),(11,40),(12,41),(13,42)] kS ?_;iterate 14 refine zT ?_
   refine zN (zO 14 (fun K hK=>?_));go_simp;refine (ko q.code q.var lg _ _ q.ps bk _ (p:=p) HF.out.drew.lt (HQ.out.ext (bC.stab p) ((zE _).drew)) (HK.out.ext (RI.stab p) ((zE _).drew)) HL5.out).mono ?_;rintro e w2 ⟨v2,rfl,hI2,hx2⟩;obtain⟨A2,n2,c2,rfl,hn2c,hc2,hn2m,HL2⟩:=hI2.open_;have hn2:n2<=120:=by have:=HL2.out;have:=pH q.code q.var q.ps bk lg;omega
   refine hK.out _ _ (fun _=>(⟨hx2.cell kS.1,hx2.cell kS.2.1,hx2.cell kS.2.2.1,hx2.cell kS.2.2.2.1,hx2.cell kS.2.2.2.2.1,hx2.cell kS.2.2.2.2.2.1,hx2.cell kS.2.2.2.2.2.2.1,hx2.cell kS.2.2.2.2.2.2.2⟩)) ?_;clear hK K;try simp only[kA]
   refine zO 15 (fun K hK=>?_);go_simp;refine hK.out _ _ (fun _=>(⟨hx2.cell kS.1,hx2.cell kS.2.1,hx2.cell kS.2.2.1,hx2.cell kS.2.2.2.1,hx2.cell kS.2.2.2.2.1,hx2.cell kS.2.2.2.2.2.1,hx2.cell kS.2.2.2.2.2.2.1,hx2.cell kS.2.2.2.2.2.2.2⟩)) ?_;clear hK K;try simp only[kA]
   refine zO 16 (fun K hK=>?_);go_simp;refine hK.out _ _ (fun h=>absurd rfl h) ?_;clear hK K;refine zD ?_;go_wp2_with fail;go_meet
   exact⟨n2,rfl,hn2,⟨(HF.out.drew.ext hx2).take 0⟩⟩
 case rest =>
 obtain⟨m,rfl,hm,HR⟩:=hcut;clear HF HP HB;go_wp2_with fail;go_loopw [8,9] (fun s8 s9 wr=>∃(k:Nat) (l:List Int),s9=.int .i64 k/\k<=m/\l.length=k/\Bx (wr.ownsRow w.heap.size 3 1 s8 l.length (l.map (Value.int .i64))/\(∀x∈l,aU x)/\Fr p w wr [])) (fun _ i _=>m-(intOf i).toNat)
 case atStart=>exact⟨0,[],rfl,by omega,rfl,⟨yZ _ _ _ _,by simp,HR.out⟩⟩
 case round =>
  obtain⟨k,l,rfl,hk,hll,HL⟩:=hrel;clear HR;by_cases hkm:k<m
  ·go_wp2_with fail;refine (dt p _ [0,0,1,8,9,4] _ (HL.out.2.2.tp.ext ((zE _).alloc _)) (ak.lit _ _ HL.out.2.2.lt (by decide) (by decide)) (by simp)).mono ?_;rintro e w2 ⟨v2,rfl,⟨x,rfl,hx⟩,HT2,HX2⟩;have hxb:aU x:=(by decide:∀x∈([0,0,1,8,9,4]:List Int),aU x) x hx;have HX:Bx (XT p _ w2):=⟨((XT.refl _ _).alloc _).trans HX2⟩
   have HT:Bx (bz w2 p):=⟨HT2⟩
   clear HT2 HX2 hx;go_wp2_with (at_builtin;refine aF _ rfl (.tmp 50) (.tmp 54) 22 rfl w.heap.size 3 i0 _ 8 underlying22 hi0 hz0 hz1 hz2 rfl _ _ _ rfl ((dD HL.out.1 HX.out hlt).alloc _) _ _ rfl (by simp;rfl) rfl (by omega) (by omega) (by have:=HL.out.2.2.xt.size;have:=HX.out.size;simp;omega) ?_;intro v' w3 hown hg);go_roundw
   case rel =>
    have h3:Fr p w w3 []:=((HL.out.2.2.step HX.out HT.out).ext ((zE _).alloc _)).grown hg (fun k x h=>by simp at h) (aq HL.out.1);refine⟨k+1,l++[x],by go_num,by omega,by simp;omega,⟨by simpa using hown,?_,h3⟩⟩;intro y hy;rcases zM.1 hy with hy|hy
    ·exact HL.out.2.1 y hy
    ·obtain rfl:y=x:=by simpa using hy
     exact hxb
   case measure=>simp[intOf];omega
  ·obtain rfl:k=m:=by omega
   go_wp2_with fail;refine (fe p 12 _ HL.out.2.2.tp (by omega) (by omega)).mono ?_;rintro e w5 ⟨v5,rfl,⟨b5,rfl⟩,HT5,HX5⟩;have H5:=bx (HL.out.2.2.step HX5 HT5);have HO:Bx (w5.ownsRow w.heap.size 3 1 u8 l.length (l.map (Value.int .i64))/\∀x∈l,aU x):=⟨⟨dD HL.out.1 HX5 hlt,HL.out.2.1⟩⟩
   clear HL HT5 HX5;cases b5 with
   |false =>
    go_wp2_with fail;go_ret
    exact⟨_,rfl,⟨l,HO.out.1,HO.out.2,by omega⟩,H5.out.tp,H5.out.xt⟩
   |true =>
    go_wp2_with fail;refine (az p 0 10 _ H5.out.tp (by omega) (by omega) (by omega) (by omega)).mono ?_;rintro e w6 ⟨v6,rfl,⟨x,rfl,hx1,hx2⟩,HT6,HX6⟩;have H6:=bx (H5.out.step HX6 HT6);have HO6:Bx (w6.ownsRow w.heap.size 3 1 u8 l.length (l.map (Value.int .i64))):=⟨dD HO.out.1 HX6 hlt⟩
    clear HT6 HX6 H5;go_wp2_with (at_builtin;refine aF _ rfl (.tmp 58) (.tmp 61) 22 rfl w.heap.size 3 i0 _ 8 underlying22 hi0 hz0 hz1 hz2 rfl _ _ _ rfl (HO6.out.alloc _) _ _ rfl (by simp;rfl) rfl (by omega) (by omega) (by have:=H6.out.xt.size;simp;omega) ?_;intro v' w7 hown hg);go_ret
    have h7:Fr p w w7 []:=(H6.out.ext ((zE _).alloc _)).grown hg (fun k x h=>by simp at h) (aq HO6.out);refine⟨_,rfl,⟨l++[x],by simpa using hown,?_,by simp;omega⟩,h7.tp,h7.xt⟩;intro y hy;rcases zM.1 hy with hy|hy
    ·exact HO.out.2 y hy
    ·obtain rfl:y=x:=by simpa using hy
     exact⟨by omega,by omega⟩
end Go.Proofs.YtpaidaphacoblaaGreatDoor

