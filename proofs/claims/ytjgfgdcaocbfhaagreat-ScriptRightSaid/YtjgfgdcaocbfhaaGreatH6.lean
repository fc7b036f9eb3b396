import Derived.Test.YtjgfgdcaocbfhaaGreatH5
set_option linter.all false
set_option maxRecDepth 100000
set_option maxHeartbeats 0
namespace Go.Proofs.YtjgfgdcaocbfhaaGreat
open Go.Value renaming int→B,slice→D
open Go.IntKind renaming i64→C
open Go.RowKit _root_.Go.Proofs.Tryz
variable {p:Nat}
theorem dx(code var:Int)(v vb:Value)(ps:List ai)(pgs:List (List Int))(w:World)(h:kr p w v ps)(hb:kL p w vb pgs) :
  Calls prog 91 #[.agg #[B C code,B C var,v],.agg #[vb]] w fun e w'=>e=.returned (.bool (eU code var ps pgs))∧ab w w':=by
 obtain⟨A,n,c,rfl,hnc,hc,hnn,HL⟩:=h.open_;obtain⟨Ab,m,cb,rfl,hmc,hcb,hmm,HM⟩:=hb.open_;have H:=zZ h;have HB:=zZ hb;clear h hb;go_enter func91,ntmps91
 go_wp2_with fail;refine (dG _ _ _ ps _ ((H.out.ext (aI.stab p) ((zE _).alloc _)).ext (aI.stab p) ((zE _).alloc _))).mono ?_;rintro e w1 ⟨rfl,hx1⟩;have HE1:=zZ (ab.trans (((zE w).alloc _).alloc _) hx1);have d0:w1.cell? ⟨w.heap.size+1,0,none⟩=some (D Ab m cb):=hx1.cell (by simp);have b2:w1.cell? ⟨w.heap.size,2,none⟩=some (D A n c):=hx1.cell (by simp);have D0:=zZ d0;have B2:=zZ b2;have HI1:=zZ (H.out.ext (aI.stab p) HE1.out);have HP1:=zZ (HB.out.ext (RI.stab p) HE1.out);clear hx1;cases hv:d9 code var ps with
 |false =>
  have HF:=zZ (cN (fun hk=>by have:=hk.1;rw[hv]at this;cases this):eU code var ps pgs=false);clear hv;go_wp2_with fail;go_ret
  exact⟨aa HF.out.symm,HE1.out⟩
 |true =>
 have HV:=zZ hv;have hvp:=iV hv;have hn1:1≤n:=by have:=HL.out;omega
 have hn24:n≤24:=by have:=HL.out;omega
 clear hv hvp;by_cases hm0:m<1
 ·have HF:=zZ (cN (fun hk=>by
   have h5:=hk.2.2.2.2;have:pgs=[]:=yO (by have:=HM.out;omega);rw[this]at h5;simp[cT]at h5;have:=HL.out;omega):eU code var ps pgs=false)
  go_wp2_with fail;go_ret
  exact⟨aa HF.out.symm,HE1.out⟩
 by_cases hm:m≤12∧m%4=0;case neg =>
  have HF:=zZ (cN (fun hk=>hm (by have h1:=hk.2.1;have h2:=hk.2.2.1;rw[HM.out]at h1 h2;exact⟨h1,h2⟩)):eU code var ps pgs=false);by_cases h12:12<m
  ·clear hm;go_wp2_with fail;go_ret
   exact⟨aa HF.out.symm,HE1.out⟩
  ·have e4:((m:Int)%4 != 0)=true:=by simp;omega
   clear hm;go_wp2_with fail;go_ret
   exact⟨aa HF.out.symm,HE1.out⟩
 case pos =>
 obtain⟨hm12,hm4⟩:=hm;have e4:((m:Int)%4 != 0)=false:=by simp;omega
 have HM4:=zZ hm4;have hm1:0<m:=by omega
 clear hm4 hm0;obtain⟨bb,ob,cs0,l0,rfl,_⟩:=HB.out.at_ hm1;obtain⟨u0,l00,hcu0,hIu0,HX0⟩:=HP1.out.page hm1;obtain⟨Au0,nu0,cu0,rfl,hnu0,hcu0',hnnu0,HLU0⟩:=hIu0.open_;simp only[yP]at hcu0;by_cases hnz:0<nu0
 ·have HF:=zZ (cN (fun hk=>by have:=hk.2.2.2.1 l00 HX0.out;have h2:=HLU0.out;rw[this]at h2;simp at h2;omega):eU code var ps pgs=false);go_wp2_with fail;go_ret
  exact⟨aa HF.out.symm,HE1.out⟩
 have HZ:Hid (∀l,pgs[0]?=some l→l=[]):=fun l hl=>by rw[HX0.out]at hl;have:=xN hl;subst this;exact yO (by have:=HLU0.out;omega)
 go_wp2_with fail;clear d0 b2 e4 hcu0 hIu0 hnz;go_loopw [5,6] (fun s5 s30 wr=>∃(i nx:Nat),i≤m∧nx≤n∧s30=B C i∧s5=B C nx∧Hid (jo code var ps pgs i nx∧ab w1 wr)) (fun _ i _=>m-(intOf i).toNat)
 case atStart=>exact⟨0,0,by omega,by omega,rfl,rfl,jo.start _ _ _ _,zE _⟩
 case round =>
  obtain⟨wo,rfl⟩:=nm (wr:World);obtain⟨i,nx,hi,hnx,rfl,rfl,HR⟩:=hrel;have d0:=HR.out.2.cell D0.out;by_cases hlt:i<m
  ·obtain⟨u,l,hcu,hIu,HX⟩:=(HP1.out.ext (RI.stab p) HR.out.2).page hlt;obtain⟨Au,nu,cu,rfl,hnu,hcu',hnnu,HLU⟩:=hIu.open_;have HIU:=zZ hIu;have HCU:=zZ hcu;clear hIu;go_wp2_with fail;clear d0 hcu;go_loopw [5,7,8] (fun s5 s8 s44 wr=>∃(k:Nat) (ln:Int),k≤nu∧nx+k≤n∧0≤ln∧ln≤30*k∧s5=B C ((nx:Int)+k)∧s8=B C ln∧s44=B C k∧Hid (ln=lA (ps.map cm) nx k∧kV (ps.map cm) nx l k∧ab wo wr)) (fun _ _ i _=>nu-(intOf i).toNat)
   case atStart=>exact⟨0,0,by omega,by omega,by omega,by omega,by simp,rfl,rfl,(mw _ _).symm,nR (by have:=HL.out;simp;omega) _,zE _⟩
   case round =>
    obtain⟨k,ln,hk,hnk,hln0,hln1,rfl,rfl,rfl,HQ⟩:=hrel;have HEW:=zZ (HR.out.2.trans HQ.out.2.2);have b2:=HEW.out.cell B2.out;have d0:=HEW.out.cell D0.out;have hcu:=HQ.out.2.2.cell HCU.out;by_cases hklt:k<nu
    ·obtain⟨bu,ou,y,rfl,hcy,HY,hy1,hy2⟩:=(HIU.out.ext HQ.out.2.2).at_ hklt;by_cases hg:y=(nx:Int)+k∧nx+k<n
     ·obtain⟨hye,hnkn⟩:=hg;subst hye;obtain⟨b,off,cs1,q1,rfl,_⟩:=H.out.at_ hnkn;obtain⟨q,c0,c1,c2,c3,c4,c5,hw,HXq⟩:=(HI1.out.ext (aI.stab p) HEW.out).part hnkn;have hnb:=nD q;go_wp2_with fail;refine (rx q _).mono ?_;rintro e w2 ⟨rfl,hx2⟩;clear c0 c1 c2 c3 c4 c5 b2 hcy d0 hcu;generalize hxq:cm q=x at *
      have HXN:Hid ((ps.map cm)[nx+k]?=some x):=by have:=kY HXq.out;rw[hxq]at this;exact this
      clear hxq;go_wp2_with fail;go_roundw
      case rel=>exact⟨k+1,ln+x,by omega,by omega,by omega,by omega,by go_num,rfl,by go_num,by rw[jL HXN.out,←HQ.out.1],pn HQ.out.2.1 HY.out (by simp) (by have:=HL.out;simp;omega),HQ.out.2.2.trans hx2⟩
      case measure=>simp[intOf];omega
     ·have HF:=zZ (cN (HR.out.1.bad HX.out (Aj HY.out (by have:=HL.out;simp;omega))):eU code var ps pgs=false);by_cases hnkn:n≤nx+k
      ·clear hg;go_wp2_with fail;go_ret
       exact⟨aa HF.out.symm,HE1.out.trans HEW.out⟩
      ·have e5:(y != (nx:Int)+k)=true:=by simp;omega
       clear hg;go_wp2_with fail;go_ret
       exact⟨aa HF.out.symm,HE1.out.trans HEW.out⟩
    ·obtain rfl:k=nu:=by omega
     by_cases hln:ln≤30
     ·have HOK:Hid (kz (ps.map cm) nx l):=⟨by rw[HLU.out];exact HQ.out.2.1,by rw[HLU.out,←HQ.out.1];exact hln⟩
      go_wp2_with fail;go_roundw
      case rel=>exact⟨i+1,nx+k,by omega,by omega,by go_num,by go_num,by have:=HR.out.1.next HX.out HOK.out;rw[HLU.out]at this;exact this,HEW.out⟩
      case measure=>simp[intOf];omega
     ·have HF:=zZ (cN (HR.out.1.bad HX.out (fun hk=>hln (by have:=hk.2;rw[HLU.out,←HQ.out.1]at this;exact this))):eU code var ps pgs=false);go_wp2_with fail;go_ret
      exact⟨aa HF.out.symm,HE1.out.trans HEW.out⟩
  ·obtain rfl:i=m:=by omega
   have b2:=HR.out.2.cell B2.out;have HFIN:Hid (decide (nx=n)=eU code var ps pgs):=by
    show decide (nx=n)=eU code var ps pgs
    have hl:=HR.out.1.fin HM.out;rw[HL.out]at hl;by_cases e:nx=n
    ·rw[nt ⟨HV.out,by rw[HM.out];exact hm12,by rw[HM.out];exact HM4.out,HZ.out,hl.2 e⟩];simp[e]
    ·rw[cN (fun hk=>e (hl.1 hk.2.2.2.2))];simp[e]
   go_wp2_with fail;go_ret
   exact⟨aa (by rw[←HFIN.out,yE];simp;omega),HE1.out.trans HR.out.2⟩
theorem lK{w w1:World}{o o':Obj}{a b c d:Value}{t t':TypeId}(ho:o=.cells #[a,b,c] t)(ho':o'=.cells #[d] t')(h:ab ((w.alloc o).alloc o') w1) :
  w1.cell? ⟨w.heap.size,0,none⟩=some a∧w1.cell? ⟨w.heap.size,1,none⟩=some b∧w1.cell? ⟨w.heap.size,2,none⟩=some c∧w1.cell? ⟨w.heap.size+1,0,none⟩=some d:=by
 subst ho;subst ho';have h1:=AI (h.blk (((zE _).alloc _).blk (heap_alloc_new w _)));have h2:w1.cell? ⟨w.heap.size+1,0,none⟩=some d:=by have:=h.blk (heap_alloc_new (w.alloc (.cells #[a,b,c] t)) (.cells #[d] t'));have:=ak this (i:=0) rfl;simpa using this
 exact⟨h1.1,h1.2.1,h1.2.2,h2⟩
def qP(p:Nat)(w:World)(fs:List eh)(e:Ending)(w':World):Prop:=∃v,e=.returned v∧GW p w' v fs∧ab w w'
theorem pF(code var page:Int)(v vb:Value)(ps:List ai)(pgs:List (List Int))(w:World)(hp:p<w.heap.size)(h:kr p w v ps)(hb:kL p w vb pgs)(hpg:aC page) :
  Calls prog 108 #[.agg #[B C code,B C var,v],.agg #[vb],B C page] w (qP p w (aA code var ps pgs page)):=by
 obtain⟨iF,hiF,hy0,hy1,hy2⟩:=info_parts Tryz.infoF;obtain⟨A,n,c,rfl,hnc,hc,hnn,HL⟩:=h.open_;obtain⟨Ab,m,cb,rfl,hmc,hcb,hmm,HM⟩:=hb.open_;obtain⟨hg1,hg2⟩:=hpg;have HE:Hid (ab w ((w.alloc (.cells #[B C code,B C var,D A n c] 89)).alloc (.cells #[D Ab m cb] 92))):=((zE _).alloc _).alloc _;have HQ:=zZ (h.ext (aI.stab p) HE.out);have HP:=zZ (hb.ext (RI.stab p) HE.out);clear h hb;by_cases hin:0≤page∧page<m
 ·obtain⟨hi0,hi1⟩:=hin;obtain⟨j,rfl⟩:=zG hi0;have hjm:j<m:=by omega
  have hkb:=lK (w:=w) (o:=.cells #[B C code,B C var,D A n c] 89) (o':=.cells #[D Ab m cb] 92) rfl rfl (zE _);replace hkb:=zZ hkb;cases hv:eU code var ps pgs with
  |false =>
   have HF:=zZ (gK (code:=code) (var:=var) (ps:=ps) (pgs:=pgs) (page:=(j:Int)) (by simp[hv]));replace hv:=zZ hv;go_enter func108,ntmps108
   go_wp2_with fail;refine (gT _ _ _ _ ps pgs _ HQ.out HP.out).mono ?_;rintro e w1 ⟨rfl,hx1⟩;rw[hv.out];go_wp2_with fail;go_ret
   exact⟨_,rfl,by rw[HF.out];exact bg.nil _ _ _ _,HE.out.trans hx1⟩
  |true =>
   obtain⟨bb,ob,cs0,pg0,rfl,_⟩:=HP.out.at_ hjm;obtain⟨u0,pg,hcu0,hIu0,HX0⟩:=HP.out.page hjm;have HF:=zZ (dE hv HX0.out);have HPP:=zZ (eA hv HX0.out);have HI64:=zZ (ot hv HX0.out);obtain⟨Ap,np,cp,rfl,_,_,_,HLp⟩:=hIu0.open_;have hnp:np≤24:=by have:=HPP.out.1;have:=HLp.out;omega
   replace hv:=zZ hv;replace hIu0:=zZ hIu0;replace hcu0:=zZ hcu0;go_enter func108,ntmps108
   go_wp2_with fail;refine (gT _ _ _ _ ps pgs _ HQ.out HP.out).mono ?_;rintro e w1 ⟨rfl,hx1⟩;rw[hv.out];replace hx1:=zZ hx1;have hcu:=hx1.out.cell hcu0.out;obtain⟨b0,b1,b2,b3⟩:=lK (w:=w) rfl rfl hx1.out;have HQ1:=zZ (HQ.out.ext (aI.stab p) hx1.out);have HI1:=zZ (hIu0.out.ext hx1.out);have HE1:=zZ (HE.out.trans hx1.out);have hp1:p<w1.heap.size:=zP hp HE1.out.size;clear HQ HP hIu0 hcu0 HX0 hkb;go_wp2_with fail;go_loopw [7,32] (fun s7 s32 wr=>∃(k:Nat) (fs:List eh),s32=B C k∧k≤np∧fs.length≤5*k∧Hid (fs=cW ps (pg.take k)∧jH w1.heap.size wr s7 fs∧ab w1 wr)) (fun _ i _=>np-(intOf i).toNat)
   case atStart=>exact⟨0,[],rfl,by omega,by simp,by simp[cW],jH.nil _ _,zE _⟩
   case round =>
    obtain⟨k,fs,rfl,hk,hfl,HR⟩:=hrel;clear b0 b1 b2 b3 hcu;by_cases hkn:k<np
    ·obtain⟨b0,b1,b2,b3⟩:=lK (w:=w) rfl rfl (hx1.out.trans HR.out.2.2);obtain⟨bp,op,x0,rfl,_⟩:=HI1.out.at_ hkn;obtain⟨x,hcx,HX,hx1',hx2'⟩:=(HI1.out.ext HR.out.2.2).cell_ hkn;obtain⟨i,q,hxi,hqi,hi24,hvq⟩:=HPP.out.2 k x HX.out;subst hxi;have hin:i<n:=by have:=(zY.1 hqi).1;have:=HL.out;omega
     obtain⟨bq,oq,cs1,q1,rfl,_⟩:=HQ1.out.at_ hin;obtain⟨q',c0,c1,c2,c3,c4,c5,_,HQq⟩:=(HQ1.out.ext (aI.stab p) HR.out.2.2).part hin;obtain rfl:q'=q:=by have:=HQq.out;rw[hqi]at this;exact (xN this).symm
     have hvo:=je hvq;replace hqi:=zZ hqi;replace hvq:=zZ hvq;by_cases hk2:q'.kind=2
     ·have hb2:(q'.kind != 2)=false:=by simp[hk2]
      have ho5:2≤q'.opts∧q'.opts≤5:=by omega
      obtain⟨ho2,ho5⟩:=ho5;obtain⟨oo,hoo⟩:=zG (show 0≤q'.opts by omega);have HPF:Hid (gz ps (i:Int)=(List.range oo).map fun k:Nat=>⟨(i:Int),(k:Int)⟩):=by
       show _=_
       have:=mg hqi.out hk2;rw[hoo]at this;simpa using this
      rw[hoo]at c4 ho2 ho5;clear hvo hk2 hoo;obtain⟨wo,rfl⟩:=nm (wr:World);go_wp2_with fail;go_loopw [7,10,49] (fun s7 s10 s49 wr=>∃(o:Nat) (fs2:List eh),s49=B C o∧o≤oo∧fs2.length≤5*k+o∧Hid (fs2=cW ps (pg.take k)++(List.range o).map (fun k:Nat=>⟨(i:Int),(k:Int)⟩)∧jH w1.heap.size wr s7 fs2∧ab w1 wr)) (fun _ _ i _=>oo-(intOf i).toNat)
      case atStart=>exact⟨0,fs,rfl,by omega,by omega,by simpa using HR.out.1,HR.out.2.1,HR.out.2.2⟩
      case round =>
       obtain⟨o,fs2,rfl,ho,hfl2,HS⟩:=hrel;by_cases hoo':o<oo
       ·go_wp2_with (at_builtin;refine aH _ rfl (.tmp 52) (.tmp 56) 112 rfl w1.heap.size 157 iF _ 2 16 underlying112 hiF hy0 hy1 hy2 rfl (by omega) _ _ _ rfl (HS.out.2.1.own.alloc _) _ _ _ rfl (heap_alloc_new wr _) rfl (by simp[Value.oneCell']) (by omega) (by omega) (by have:=HS.out.2.2.size;simp;omega) ?_;intro v5 w5 hown5 hg5);go_roundw
        case rel=>exact⟨v5,B C o,B C (o+1),⟨o+1,by go_num,by omega,fs2++[⟨(i:Int),(o:Int)⟩],by simp;omega,by rw[pG,HS.out.1,xV],jH.push hown5,ab.grown (HS.out.2.2.alloc _) hg5 (ar HS.out.2.1.own)⟩,rfl,rfl,rfl⟩
        case measure=>simp[intOf];omega
       ·obtain rfl:o=oo:=by omega
        go_wp2_with fail;go_roundw
        case rel=>exact⟨k+1,fs2,by go_num,by omega,by omega,by rw[jP HX.out,HPF.out];exact HS.out.1,HS.out.2⟩
        case measure=>simp[intOf];omega
     ·have hb2:(q'.kind != 2)=true:=by simp[hk2]
      have HPF:=zZ (qg hqi.out hk2);clear hvo hk2;go_wp2_with fail;go_roundw
      case rel=>exact⟨k+1,fs,by go_num,by omega,by omega,by rw[jP HX.out,HPF.out,xU];exact HR.out.1,HR.out.2⟩
      case measure=>simp[intOf];omega
    ·obtain rfl:k=np:=by omega
     go_wp2_with fail;go_ret
     refine⟨_,rfl,?_,HE1.out.trans HR.out.2.2⟩;rw[HF.out,←aD HLp.out,←HR.out.1];refine HR.out.2.1.isF hp1 ?_;rw[HR.out.1,aD HLp.out];exact HI64.out
 ·have HF:=zZ (gK (code:=code) (var:=var) (ps:=ps) (pgs:=pgs) (page:=page) (by have:=HM.out;rw[this];exact fun h=>hin h.2));have hin':page<0∨(m:Int)≤page:=by omega
  clear hin;by_cases hneg:page<0
  ·clear hin';go_enter func108,ntmps108
   go_wp2_with fail;go_ret
   exact⟨_,rfl,by rw[HF.out];exact bg.nil _ _ _ _,HE.out⟩
  ·have hge:(m:Int)≤page:=by omega
   clear hin';go_enter func108,ntmps108
   go_wp2_with fail;go_ret
   exact⟨_,rfl,by rw[HF.out];exact bg.nil _ _ _ _,HE.out⟩
theorem gX(code var page:Int)(v vb:Value)(ps:List ai)(pgs:List (List Int))(w:World)(hp:p<w.heap.size)(h:kr p w v ps)(hb:kL p w vb pgs)(hpg:aC page) :
  Calls prog 51 #[.agg #[B C code,B C var,v],.agg #[vb],B C page] w (qP p w (aA code var ps pgs page)):=by
 obtain⟨iF,hiF,hy0,hy1,hy2⟩:=info_parts Tryz.infoF;obtain⟨A,n,c,rfl,hnc,hc,hnn,HL⟩:=h.open_;obtain⟨Ab,m,cb,rfl,hmc,hcb,hmm,HM⟩:=hb.open_;obtain⟨hg1,hg2⟩:=hpg;have HE:Hid (ab w ((w.alloc (.cells #[B C code,B C var,D A n c] 89)).alloc (.cells #[D Ab m cb] 92))):=((zE _).alloc _).alloc _;have HQ:=zZ (h.ext (aI.stab p) HE.out);have HP:=zZ (hb.ext (RI.stab p) HE.out);clear h hb;by_cases hin:0≤page∧page<m
 ·obtain⟨hi0,hi1⟩:=hin;obtain⟨j,rfl⟩:=zG hi0;have hjm:j<m:=by omega
  have hkb:=lK (w:=w) (o:=.cells #[B C code,B C var,D A n c] 89) (o':=.cells #[D Ab m cb] 92) rfl rfl (zE _);replace hkb:=zZ hkb;cases hv:eU code var ps pgs with
  |false =>
   have HF:=zZ (gK (code:=code) (var:=var) (ps:=ps) (pgs:=pgs) (page:=(j:Int)) (by simp[hv]));replace hv:=zZ hv;go_enter func51,ntmps51
   go_wp2_with fail;refine (dx _ _ _ _ ps pgs _ HQ.out HP.out).mono ?_;rintro e w1 ⟨rfl,hx1⟩;rw[hv.out];go_wp2_with fail;go_ret
   exact⟨_,rfl,by rw[HF.out];exact bg.nil _ _ _ _,HE.out.trans hx1⟩
  |true =>
   obtain⟨bb,ob,cs0,pg0,rfl,_⟩:=HP.out.at_ hjm;obtain⟨u0,pg,hcu0,hIu0,HX0⟩:=HP.out.page hjm;have HF:=zZ (dE hv HX0.out);have HPP:=zZ (eA hv HX0.out);have HI64:=zZ (ot hv HX0.out);obtain⟨Ap,np,cp,rfl,_,_,_,HLp⟩:=hIu0.open_;have hnp:np≤24:=by have:=HPP.out.1;have:=HLp.out;omega
   replace hv:=zZ hv;replace hIu0:=zZ hIu0;replace hcu0:=zZ hcu0;go_enter func51,ntmps51
   go_wp2_with fail;refine (dx _ _ _ _ ps pgs _ HQ.out HP.out).mono ?_;rintro e w1 ⟨rfl,hx1⟩;rw[hv.out];replace hx1:=zZ hx1;have hcu:=hx1.out.cell hcu0.out;obtain⟨b0,b1,b2,b3⟩:=lK (w:=w) rfl rfl hx1.out;have HQ1:=zZ (HQ.out.ext (aI.stab p) hx1.out);have HI1:=zZ (hIu0.out.ext hx1.out);have HE1:=zZ (HE.out.trans hx1.out);have hp1:p<w1.heap.size:=zP hp HE1.out.size;clear HQ HP hIu0 HX0 hkb;go_wp2_with fail;go_loopw [7,8] (fun s7 s32 wr=>∃(k:Nat) (fs:List eh),s32=B C k∧k≤np∧fs.length≤5*k∧Hid (fs=cW ps (pg.take k)∧jH w1.heap.size wr s7 fs∧ab w1 wr)) (fun _ i _=>np-(intOf i).toNat)
   case atStart=>exact⟨0,[],rfl,by omega,by simp,by simp[cW],jH.nil _ _,zE _⟩
   case round =>
    obtain⟨k,fs,rfl,hk,hfl,HR⟩:=hrel;clear b0 b1 b2 b3 hcu;have hcu:=(hx1.out.trans HR.out.2.2).cell hcu0.out;obtain⟨b0,b1,b2,b3⟩:=lK (w:=w) rfl rfl (hx1.out.trans HR.out.2.2);by_cases hkn:k<np
    ·skip
     obtain⟨bp,op,x0,rfl,_⟩:=HI1.out.at_ hkn;obtain⟨x,hcx,HX,hx1',hx2'⟩:=(HI1.out.ext HR.out.2.2).cell_ hkn;obtain⟨i,q,hxi,hqi,hi24,hvq⟩:=HPP.out.2 k x HX.out;subst hxi;have hin:i<n:=by have:=(zY.1 hqi).1;have:=HL.out;omega
     obtain⟨bq,oq,cs1,q1,rfl,_⟩:=HQ1.out.at_ hin;obtain⟨q',c0,c1,c2,c3,c4,c5,_,HQq⟩:=(HQ1.out.ext (aI.stab p) HR.out.2.2).part hin;obtain rfl:q'=q:=by have:=HQq.out;rw[hqi]at this;exact (xN this).symm
     have hvo:=je hvq;replace hqi:=zZ hqi;replace hvq:=zZ hvq;by_cases hk2:q'.kind=2
     ·have hb2:(q'.kind != 2)=false:=by simp[hk2]
      have ho5:2≤q'.opts∧q'.opts≤5:=by omega
      obtain⟨ho2,ho5⟩:=ho5;obtain⟨oo,hoo⟩:=zG (show 0≤q'.opts by omega);have HPF:Hid (gz ps (i:Int)=(List.range oo).map fun k:Nat=>⟨(i:Int),(k:Int)⟩):=by
       show _=_
       have:=mg hqi.out hk2;rw[hoo]at this;simpa using this
      rw[hoo]at c4 ho2 ho5;have HOO:=zZ hoo;clear hvo hk2 hoo;obtain⟨wo,rfl⟩:=nm (wr:World);go_wp2_with fail;go_loopw [7,10] (fun s7 s49 wr=>∃(o:Nat) (fs2:List eh),s49=B C o∧o≤oo∧fs2.length≤5*k+o∧Hid (fs2=cW ps (pg.take k)++(List.range o).map (fun k:Nat=>⟨(i:Int),(k:Int)⟩)∧jH w1.heap.size wr s7 fs2∧ab w1 wr)) (fun _ i _=>oo-(intOf i).toNat)
      case atStart=>exact⟨0,fs,rfl,by omega,by omega,by simpa using HR.out.1,HR.out.2.1,HR.out.2.2⟩
      case round =>
       obtain⟨o,fs2,rfl,ho,hfl2,HS⟩:=hrel;clear b0 b1 b2 b3 hcu c0 c1 c2 c3 c4 c5 hcx;obtain⟨b0,b1,b2,b3⟩:=lK (w:=w) rfl rfl (hx1.out.trans HS.out.2.2);obtain⟨q2,c0,c1,c2,c3,c4,c5,_,HQq2⟩:=(HQ1.out.ext (aI.stab p) HS.out.2.2).part hin;obtain rfl:q2=q':=by have:=HQq2.out;rw[hqi.out]at this;exact (xN this).symm
       rw[HOO.out]at c4;by_cases hoo':o<oo
       ·go_wp2_with (at_builtin;refine aH _ rfl (.tmp 61) (.tmp 65) 112 rfl w1.heap.size 157 iF _ 2 16 underlying112 hiF hy0 hy1 hy2 rfl (by omega) _ _ _ rfl (HS.out.2.1.own.alloc _) _ _ _ rfl (heap_alloc_new wr _) rfl (by simp[Value.oneCell']) (by omega) (by omega) (by have:=HS.out.2.2.size;simp;omega) ?_;intro v5 w5 hown5 hg5);go_roundw
        case rel=>exact⟨o+1,by omega,by omega,fs2++[⟨(i:Int),(o:Int)⟩],by simp;omega,by rw[pG,HS.out.1,xV],jH.push hown5,ab.grown (HS.out.2.2.alloc _) hg5 (ar HS.out.2.1.own)⟩
        case measure=>simp[intOf];omega
       ·obtain rfl:o=oo:=by omega
        go_wp2_with fail;go_roundw
        case rel=>exact⟨k+1,fs2,by go_num,by omega,by omega,by rw[jP HX.out,HPF.out];exact HS.out.1,HS.out.2⟩
        case measure=>simp[intOf];omega
     ·have hb2:(q'.kind != 2)=true:=by simp[hk2]
      have HPF:=zZ (qg hqi.out hk2);clear hvo hk2;go_wp2_with fail;go_roundw
      case rel=>exact⟨k+1,fs,by go_num,by omega,by omega,by rw[jP HX.out,HPF.out,xU];exact HR.out.1,HR.out.2⟩
      case measure=>simp[intOf];omega
    ·obtain rfl:k=np:=by omega
     go_wp2_with fail;go_ret
     refine⟨_,rfl,?_,HE1.out.trans HR.out.2.2⟩;rw[HF.out,←aD HLp.out,←HR.out.1];refine HR.out.2.1.isF hp1 ?_;rw[HR.out.1,aD HLp.out];exact HI64.out
 ·have HF:=zZ (gK (code:=code) (var:=var) (ps:=ps) (pgs:=pgs) (page:=page) (by have:=HM.out;rw[this];exact fun h=>hin h.2));have hin':page<0∨(m:Int)≤page:=by omega
  clear hin;cases hv:eU code var ps pgs with
  |false =>
   replace hv:=zZ hv;clear hin';go_enter func51,ntmps51
   go_wp2_with fail;refine (dx _ _ _ _ ps pgs _ HQ.out HP.out).mono ?_;rintro e w1 ⟨rfl,hx1⟩;rw[hv.out];go_wp2_with fail;go_ret
   exact⟨_,rfl,by rw[HF.out];exact bg.nil _ _ _ _,HE.out.trans hx1⟩
  |true =>
   replace hv:=zZ hv;by_cases hneg:page<0
   ·clear hin';go_enter func51,ntmps51
    go_wp2_with fail;refine (dx _ _ _ _ ps pgs _ HQ.out HP.out).mono ?_;rintro e w1 ⟨rfl,hx1⟩;rw[hv.out];go_wp2_with fail;go_ret
    exact⟨_,rfl,by rw[HF.out];exact bg.nil _ _ _ _,HE.out.trans hx1⟩
   ·have hge:(m:Int)≤page:=by omega
    clear hin';go_enter func51,ntmps51
    go_wp2_with fail;refine (dx _ _ _ _ ps pgs _ HQ.out HP.out).mono ?_;rintro e w1 ⟨rfl,hx1⟩;rw[hv.out];obtain⟨b0,b1,b2,b3⟩:=lK (w:=w) rfl rfl hx1;go_wp2_with fail;go_ret
    exact⟨_,rfl,by rw[HF.out];exact bg.nil _ _ _ _,HE.out.trans hx1⟩
end Go.Proofs.YtjgfgdcaocbfhaaGreat

