import Derived.Test.YtjgfgdcaocbfhaaGreatH36
import Derived.Test.YtjgfgdcaocbfhaaGreatRScB
set_option linter.all false
set_option maxRecDepth 100000
set_option maxHeartbeats 0
namespace Go.Proofs.YtjgfgdcaocbfhaaGreat
open Go.Value renaming int→B,slice→D
open Go.IntKind renaming i64→C
open Go.RowKit _root_.Go.Proofs.Tryz
variable {j k n p:Nat}
def hZ(fs:List eh)(cs:List Int)(i:Int)(k:Nat):List Int:=((fs.zip cs).take k).filterMap fun x=>if x.1.part=i then some x.2 else none
section
variable {fs:List eh} {cs:List Int} {i:Int} {k:Nat} {q:eh} {x:Int}
theorem Dx(hq:fs[k]?=some q)(hx:cs[k]?=some x):(fs.zip cs)[k]?=some (q,x):=by rw[List.getElem?_zip_eq_some];exact⟨hq,hx⟩
theorem n8(hq:fs[k]?=some q)(hx:cs[k]?=some x)(h:q.part=i):hZ fs cs i (k+1)=hZ fs cs i k++[x]:=by unfold hZ;rw[ag (Dx hq hx)];simp[h]
theorem qO(hq:fs[k]?=some q)(hx:cs[k]?=some x)(h:¬q.part=i):hZ fs cs i (k+1)=hZ fs cs i k:=by unfold hZ;rw[ag (Dx hq hx)];simp[h]
theorem vU(h:fs.length≤k):hZ fs cs i k=aO fs cs i:=by unfold hZ aO;rw[xM (by simp;omega)]
theorem yo(h:x∈aO fs cs i):x∈cs:=by
 unfold aO at h;obtain⟨y,hy,he⟩:=wA.1 h;split at he
 ·injection he with he;subst he;exact (List.of_mem_zip hy).2
 ·cases he
theorem Ez{J:List Int→Int}(hj:j<n)(h:aO fs cs (j:Int)≠[]):(iT J n fs cs)[j]?=some (J (aO fs cs (j:Int))):=by unfold iT;rw[zL,xH hj];simp[h]
theorem FP{J:List Int→Int}(hj:j<n)(h:aO fs cs (j:Int)=[]):(iT J n fs cs)[j]?=some (-1):=by unfold iT;rw[zL,xH hj];simp[h]
end
theorem CD(code var d f ld page:Int)(v vb vc:Value)(ps:List ai)(pgs:List (List Int))(cs:List Int)(w:World)(hp:p<w.heap.size)(h:kr p w v ps)(hb:kL p w vb pgs)(hc:ao p w vc cs)(hpg:aC page) :
  Calls prog 81 #[.agg #[B C code,B C var,v],.agg #[vb],.agg #[B C d,B C f,B C ld],B C page,vc] w (dO p w (bQ code var ps pgs d f ld page cs) (gh code var ps pgs d f ld page cs)):=by
 obtain⟨A,n,c,rfl,hnc,hcc,hnn,HL⟩:=h.open_;obtain⟨Ab,m,cb,rfl,hmc,hcb,hmm,HM⟩:=hb.open_;obtain⟨Ac,nc,ccc,rfl,hncc,hccc,hnnc,HC⟩:=hc.open_;have HE:Hid (ab w (((w.alloc (.cells #[B C code,B C var,D A n c] 89)).alloc (.cells #[D Ab m cb] 92)).alloc (.cells #[B C d,B C f,B C ld] 46))):=(((zE _).alloc _).alloc _).alloc _;have HB:=zZ (pX.start w code var d f ld (D A n c) (D Ab m cb) 89 92 46);have HQ:=zZ (h.ext (aI.stab p) HE.out);have HP:=zZ (hb.ext (RI.stab p) HE.out);have HI:=zZ (hc.ext HE.out);have hpw:=zP hp HE.out.size;have HPG:=zZ hpg;clear h hb hc hpg;go_enter func81,ntmps81
 go_upto_region 1 with (fail)
 generalize hW:((w.alloc (.cells #[B C code,B C var,D A n c] 89)).alloc (.cells #[D Ab m cb] 92)).alloc (.cells #[B C d,B C f,B C ld] 46)=W at *
 clear hW;go_cut [31] (fun s34 wx=>∃b:Bool,s34=.bool b∧Hid ((b=false↔dp d f ld=true∧eU code var ps pgs=true)∧ab W wx))
 case first =>
  obtain⟨⟨b0,b1,b2⟩,b3,b4,b5,b6⟩:=HB.out;go_wp2_with fail;refine (dG _ _ _ ps _ HQ.out).mono ?_;rintro e w1 ⟨rfl,hx1⟩;cases hv:d9 code var ps with
  |false =>
   have hnb:eU code var ps pgs=false:=cN fun x=>by have:=x.1;rw[hv]at this;cases this
   replace hv:=zZ hv;replace hnb:=zZ hnb;go_wp2_with fail;go_meet
   exact⟨true,rfl,by simp[hnb.out],hx1⟩
  |true =>
   replace hv:=zZ hv;replace HB:=zZ (HB.out.ext hx1);have HE1:=zZ hx1;clear b0 b1 b2 b3 b4 b5 b6 hx1;obtain⟨⟨b0,b1,b2⟩,b3,b4,b5,b6⟩:=HB.out;go_wp2_with fail;refine (ey _ _ _ _).mono ?_;rintro e w2 ⟨rfl,hx2⟩;replace HE1:=zZ (HE1.out.trans hx2);replace HB:=zZ (HB.out.ext hx2);clear b0 b1 b2 b3 b4 b5 b6 hx2;cases ht:dp d f ld with
   |false =>
    replace ht:=zZ ht;go_wp2_with fail;go_meet
    exact⟨true,rfl,by simp[ht.out],HE1.out⟩
   |true =>
    replace ht:=zZ ht;obtain⟨⟨b0,b1,b2⟩,b3,b4,b5,b6⟩:=HB.out;go_wp2_with fail;refine (dx _ _ _ _ ps pgs _ (HQ.out.ext (aI.stab p) HE1.out) (HP.out.ext (RI.stab p) HE1.out)).mono ?_;rintro e w3 ⟨rfl,hx3⟩;go_wp2_with fail;go_meet
    exact⟨!eU code var ps pgs,rfl,by simp[ht.out],HE1.out.trans hx3⟩
 case rest =>
 obtain⟨b,rfl,HR⟩:=hcut;have HT:=zZ HR.out.1;replace HB:=zZ (HB.out.ext HR.out.2);replace HQ:=zZ ((HQ.out.ext (aI.stab p) HR.out.2));replace HP:=zZ ((HP.out.ext (RI.stab p) HR.out.2));replace HI:=zZ (HI.out.ext HR.out.2);replace HE:=zZ (HE.out.trans HR.out.2);replace hpw:=zP hpw HR.out.2.size;clear HR;cases b;case true =>have H1:=zZ (El (code:=code) (var:=var) (ps:=ps) (pgs:=pgs) (d:=d) (f:=f) (ld:=ld) (page:=page) (cs:=cs) (fun x=>by have:=HT.out.2 x;cases this));go_wp2_with fail;exact bodyPost_ret (v:=.tuple #[D none 0 0,B C 1]) (by simp[results,results81,go_sem]) rfl (dO.mk0 H1.out HE.out)
 have HV:=zZ (HT.out.1 rfl);clear HT;obtain⟨⟨b0,b1,b2⟩,b3,b4,b5,b6⟩:=HB.out;by_cases hin:0≤page∧page<m;case neg =>
  have H4:=zZ (Dl (page:=page) (cs:=cs) HV.out (by rw[HM.out];exact hin));have hin':page<0∨(m:Int)≤page:=by omega
  clear hin;by_cases hneg:page<0
  ·clear hin';go_wp2_with fail;exact bodyPost_ret (v:=.tuple #[D none 0 0,B C 4]) (by simp[results,results81,go_sem]) rfl (dO.mk0 H4.out HE.out)
  ·have hge:(m:Int)≤page:=by omega
   clear hin';go_wp2_with fail;exact bodyPost_ret (v:=.tuple #[D none 0 0,B C 4]) (by simp[results,results81,go_sem]) rfl (dO.mk0 H4.out HE.out)
 have HIN:Hid (0≤page∧page<pgs.length):=by show _∧_;rw[HM.out];exact hin
 obtain⟨hi0,hi1⟩:=hin;go_wp2_with fail;refine (gX _ _ _ _ _ ps pgs _ hpw HQ.out HP.out HPG.out).mono ?_;rintro e w4 ⟨vf,rfl,hF,hx4⟩;obtain⟨Af,nf,cf,rfl,hncf,hcf,hnnf,HLF⟩:=hF.open_;replace hF:=zZ hF;replace HB:=zZ (HB.out.ext hx4);replace HQ:=zZ ((HQ.out.ext (aI.stab p) hx4));replace HI:=zZ (HI.out.ext hx4);replace HE:=zZ (HE.out.trans hx4);replace hpw:=zP hpw hx4.size;clear b0 b1 b2 b3 b4 b5 b6 hx4 HP;by_cases hlen:nc=nf;case neg =>
  have H22:=zZ (AJ (cs:=cs) HV.out HIN.out (by rw[HC.out,HLF.out];exact hlen));have hne:((nc:Int)!=nf)=true:=by simp;omega
  clear hlen;go_wp2_with fail;exact bodyPost_ret (v:=.tuple #[D none 0 0,B C 22]) (by simp[results,results81,go_sem]) rfl (dO.mk0 H22.out HE.out)
 subst hlen;have HLN:Hid (cs.length=(aA code var ps pgs page).length):=by show _=_;rw[HC.out,HLF.out]
 have hnn0:((nc:Int)!=nc)=false:=by simp
 go_wp2_with fail;refine (lL _ cs _ HI.out).mono ?_;rintro e w' ⟨rfl,rfl⟩;cases hall:cs.all bd with
 |false =>
  have H2:=zZ (DN HV.out HIN.out HLN.out hall);replace hall:=zZ hall;go_wp2_with fail;exact bodyPost_ret (v:=.tuple #[D none 0 0,B C 2]) (by simp[results,results81,go_sem]) rfl (dO.mk0 H2.out HE.out)
 |true =>
 have H0:=zZ (yx HV.out HIN.out HLN.out hall);replace hall:=zZ hall;have hps:=(iV (jg HV.out.2).1)
 have hn24:n≤24:=by have:=hps.2.2.2.2.2.1;have:=HL.out;omega
 clear hps;obtain⟨i0,hi0',hz0,hz1,hz2⟩:=info_parts Tryz.infoI;have hnc120:nc≤1000:=by
  have hnn:0≤page∧page<pgs.length:=HIN.out;obtain⟨j,hj⟩:=zG hi0;obtain⟨pg,hpgj⟩:∃pg,pgs[j]?=some pg:=⟨_,zW (by have:=hnn.2;omega)⟩
  have h1:=HLF.out;rw[hj,dE HV.out.2 hpgj,mJ ps pg (mB HV.out.2 hpgj).2]at h1;have h2:=qh _ (mB HV.out.2 hpgj).1;have h3:(gf ps pg).length≤pg.length:=vZ _ _;have h4:=(eA HV.out.2 hpgj).1;omega
 generalize hfs:aA code var ps pgs page=fs at *
 have HFS:=zZ hfs;clear hfs;go_wp2_with fail;go_loopw [13,14] (fun s13 s14 wr=>∃(i:Nat),s14=B C i∧i≤n∧Hid (wr.ownsRow w4.heap.size 3 1 s13 i (((iT (bH d f ld) n fs cs).take i).map (Value.int .i64))∧ab w4 wr)) (fun _ i _=>n-(intOf i).toNat)
 case atStart=>exact⟨0,rfl,by omega,yW _ _ _ _,zE _⟩
 case round =>
  obtain⟨i,rfl,hi,HR⟩:=hrel;obtain⟨⟨b0,b1,b2⟩,b3,b4,b5,b6⟩:=HB.out.ext HR.out.2;by_cases hin:i<n
  ·obtain⟨q1,q2⟩:=HR.out;replace q1:=zZ q1;replace q2:=zZ q2;clear HR;obtain⟨wo,rfl⟩:=nm (wr:World);have hso:w4.heap.size≤wo.heap.size:=q2.out.size;go_wp2_with fail;go_loopw [15,16] (fun s15 s16 wr=>∃(k:Nat) (vals:List Int),s16=B C k∧k≤nc∧vals.length≤k∧Hid (vals=hZ fs cs i k∧wr.ownsRow wo.heap.size 3 1 s15 vals.length (vals.map (Value.int .i64))∧ab wo wr)) (fun _ i _=>nc-(intOf i).toNat)
   case atStart=>exact⟨0,[],rfl,by omega,by simp,by simp[hZ],yW _ _ _ _,zE _⟩
   case round =>
    obtain⟨k,vals,rfl,hk,hvl,HS⟩:=hrel;by_cases hkn:k<nc
    ·obtain⟨bf,of,cs1,z1,rfl,_⟩:=hF.out.at_ hkn;obtain⟨bc,oc,z2,rfl,_⟩:=HI.out.at_ hkn;obtain⟨q,cq,_,HQ,hqi,_⟩:=((hF.out.ext (rB.stab p) q2.out).ext (rB.stab p) HS.out.2.2).fld hkn;obtain⟨x,hcx,HX,hx1,hx2⟩:=((HI.out.ext q2.out).ext HS.out.2.2).cell_ hkn;by_cases hqp:q.part=(i:Int)
     ·have hqb:(q.part==(i:Int))=true:=by simp[hqp]
      replace hqp:=zZ hqp;have hso2:=HS.out.2.2.size;go_wp2_with (at_builtin;refine al _ rfl (.tmp 73) (.tmp 78) 22 rfl wo.heap.size 3 i0 _ 8 underlying22 hi0' hz0 hz1 hz2 rfl _ _ _ rfl (HS.out.2.1.alloc _) _ _ rfl (by simp;rfl) rfl (by omega) (by omega) (by simp;omega) ?_;intro v7 w7 hown7 hg7);go_roundw
      case rel=>first|exact⟨k+1,vals++[x],by go_num,by omega,by simp;omega,by rw[n8 HQ.out HX.out hqp.out,HS.out.1],by simpa using hown7,ab.grown (HS.out.2.2.alloc _) hg7 (ar HS.out.2.1)⟩|exact⟨k+1,by omega,by omega,vals++[x],by simp;omega,by rw[n8 HQ.out HX.out hqp.out,HS.out.1],by simpa using hown7,ab.grown (HS.out.2.2.alloc _) hg7 (ar HS.out.2.1)⟩
      case measure=>simp[intOf];omega
     ·have hqb:(q.part==(i:Int))=false:=by simp[hqp]
      replace hqp:=zZ hqp;go_wp2_with fail;go_roundw
      case rel=>first|exact⟨k+1,vals,by go_num,by omega,by omega,by rw[qO HQ.out HX.out hqp.out];exact HS.out.1,HS.out.2⟩|exact⟨k+1,by omega,by omega,vals,by omega,by rw[qO HQ.out HX.out hqp.out];exact HS.out.1,HS.out.2⟩
      case measure=>simp[intOf];omega
    ·obtain rfl:k=nc:=by omega
     have hve:vals=aO fs cs (i:Int):=by rw[HS.out.1];exact vU (by have:=HC.out;have:=HLF.out;omega)
     have hvi:∀x∈vals,aC x:=by intro x hx;rw[hve]at hx;exact HI.out.mem (yo hx)
     have hIv:ao p wr u15 vals:=ao.of_own HS.out.2.1 (by omega) hvi (by omega);have q8:=zZ (ac q1.out HS.out.2.2);have q9:=zZ (q2.out.trans HS.out.2.2);obtain⟨Av,nv,cv,hv15,_,_,_,HLv⟩:=hIv.open_;subst hv15;replace hve:=zZ hve;replace hIv:=zZ hIv;clear HS hvi;obtain⟨⟨b0,b1,b2⟩,b3,b4,b5,b6⟩:=HB.out.ext q9.out;have hs9:=q9.out.size;by_cases hv0:0<nv
     ·have hat:Hid ((iT (bH d f ld) n fs cs)[i]?=some (bH d f ld vals)):=by
       show _=_
       rw[hve.out];refine Ez hin ?_;rw[←hve.out];intro e;have:=HLv.out;rw[e]at this;simp at this;omega
      have hjb:=mh d f ld vals;go_wp2_with fail;refine (wn _ _ _ _ vals _ hIv.out).mono ?_;rintro e x1 ⟨rfl,hx1⟩;generalize hjv:bH d f ld vals=jv at *
      replace q8:=zZ (ac q8.out hx1);replace q9:=zZ (q9.out.trans hx1);have hs10:=hx1.size;clear b0 b1 b2 b3 b4 b5 b6 hx1 hjv;go_wp2_with (at_builtin;refine al _ rfl (.tmp 89) (.tmp 91) 22 rfl w4.heap.size 3 i0 _ 8 underlying22 hi0' hz0 hz1 hz2 rfl _ _ _ rfl (q8.out.alloc _) _ _ rfl (by simp;rfl) rfl (by omega) (by omega) (by simp;omega) ?_;intro v7 w7 hown7 hg7);go_roundw
      case rel=>exact⟨i+1,by go_num,by omega,by rw[ag hat.out];simpa using hown7,ab.grown (q9.out.alloc _) hg7 (ar q8.out)⟩
      case measure=>simp[intOf];omega
     ·have hat:Hid ((iT (bH d f ld) n fs cs)[i]?=some (-1)):=by
       show _=_
       refine FP hin ?_;rw[←hve.out];exact yO (by have:=HLv.out;omega)
      go_wp2_with (at_builtin;refine al _ rfl (.tmp 89) (.tmp 91) 22 rfl w4.heap.size 3 i0 _ 8 underlying22 hi0' hz0 hz1 hz2 rfl _ _ _ rfl (q8.out.alloc _) _ _ rfl (by simp;rfl) rfl (by omega) (by omega) (by simp;omega) ?_;intro v7 w7 hown7 hg7);go_roundw
      case rel=>exact⟨i+1,by go_num,by omega,by rw[ag hat.out];simpa using hown7,ab.grown (q9.out.alloc _) hg7 (ar q8.out)⟩
      case measure=>simp[intOf];omega
  ·obtain rfl:i=n:=by omega
   obtain⟨q1,q2⟩:=HR.out;have hlr:(iT (bH d f ld) i fs cs).length=i:=by simp[iT]
   rw[xM (by omega)]at q1;have hI9:ao p wr u13 (iT (bH d f ld) i fs cs):=ao.of_own q1 hpw (oC _ _ _) (by omega);obtain⟨Av,nv,cv,hv13,_,_,_,HLv⟩:=hI9.open_;subst hv13;replace hI9:=zZ hI9;replace q2:=zZ q2;clear q1 HR;go_wp2_with fail;refine bodyPost_ret (v:=.tuple #[D Av nv cv,B C 0]) (by simp[results,results81,go_sem]) rfl ⟨_,by rw[←H0.out.2],by rw[←H0.out.1,HL.out];exact hI9.out,HE.out.trans q2.out⟩
theorem lf(v vi:Value)(s:aZ)(t:en)(d f ld xa xb xd:Int)(w:World)(hp:p<w.heap.size)(hs:aN p w v s)(ht:bN p w vi t)(hB0:vk s t)(hx:aJ s.xp xa=some ⟨xa,xb,xd⟩)(hd:bM s t ⟨xa,xb,xd⟩=true)(hv:dp d f ld=true)(hn1:t.sts.length≤1000)(hn2:t.pgs.length≤1000) :
  Calls prog 43 #[v,vi,.agg #[B C d,B C f,B C ld],.agg #[B C xa,B C xb,B C xd]] w fun e w'=>(∃vr,e=.returned vr∧av w' w.heap.size vr (fC s t d f ld ⟨xa,xb,xd⟩))∧ab w w':=by
 obtain⟨i0,hi0,hz0,hz1,hz2⟩:=info_parts Tryz.infoI;have HS0:=zZ hs;have HT0:=zZ ht;obtain⟨vP,vB,vX,rfl,hP,hB,hX,hnum⟩:=hs;obtain⟨AP,nP,cP,rfl,hnP,hcP,hmP,HLP⟩:=hP.open_;obtain⟨AB,nB,cB,rfl,hnB,hcB,hmB,HLB⟩:=hB.open_;obtain⟨AX,nX,cX,rfl,-⟩:=hX.open_;obtain⟨vS,vG,rfl,hS,hG⟩:=ht;obtain⟨AS,nS,cS,rfl,-⟩:=hS.open_;obtain⟨AG,nG,cG,rfl,-⟩:=hG.open_;have hok:=eV.1 hB0.chk;have hxb:=fw hok (bh hx).1;simp only at hxb;obtain⟨xb1,xb2,xb3,xb4,xb5,xb6⟩:=hxb;obtain⟨⟨pc,pv,pps⟩,bk,hpq,hbk,hbb,hvp,-,-⟩:=gQ hok xb3 xb4;simp only at hbb hvp;have hbn:=kJ hbb;have hpn:pps.length≤24∧1≤pps.length:=by unfold d9 at hvp;simp only[yY,decide_eq_true_eq]at hvp;omega
 have hbks:=hok.bks;obtain⟨r,rfl⟩:=zG xb3;have hRl:=ta (s:=s) (i:=t) (x:=⟨xa,xb,(r:Int)⟩) (d:=d) (f:=f) (ld:=ld) hpq hbk;simp only at hRl;have HAP:Bx (∀(j:Nat) (pg:List Int),bk[j]?=some pg→∃y,bT t.pgs xa (j:Int)=some y∧gh pc pv pps bk d f ld (j:Int) y.ch=0∧(bQ pc pv pps bk d f ld (j:Int) y.ch).length=pps.length∧∀u:Nat,(u:Int)∈pg→u<pps.length→∃v,(bQ pc pv pps bk d f ld (j:Int) y.ch)[u]?=some v∧(fC s t d f ld ⟨xa,xb,(r:Int)⟩)[u]?=some v):=⟨fun j pg hj=>by obtain⟨y,hy,hl,ha⟩:=uJ hB0 hx hpq hbk hd hj;have:=sP hB0 hx hpq hbk hv hj hy hl ha;exact⟨y,hy,this.1,this.2.1,this.2.2⟩⟩
 have HAI:Bx (∀(u:Nat) (r':ai),pps[u]?=some r'→(fC s t d f ld ⟨xa,xb,(r:Int)⟩)[u]?=some (if r'.kind=2 then (bQ pc pv pps bk d f ld (dC bk (u:Int)) ((bT t.pgs xa (dC bk (u:Int))).getD ⟨0,0,0,[],⟨0,0⟩⟩).ch).getD u 0 else -1)):=⟨fun u r' hu=>uX (s:=s) (i:=t) (x:=⟨xa,xb,(r:Int)⟩) (q:=⟨pc,pv,pps⟩) (b:=bk) hpq hbk hu⟩
 have hRI:=Bq s t d f ld ⟨xa,xb,(r:Int)⟩;obtain⟨R,hR⟩:=nm (fC s t d f ld ⟨xa,xb,(r:Int)⟩);rw[←hR]at hRl HAP HAI hRI;have HRI:=zZ hRI;rw[←hR];rw[yR]at hpq hbk;have hrP:r<nP:=by have:=HLP.out;omega
 have hrB:r<nB:=by have:=HLB.out;omega
 obtain⟨bP,oP,_,_,rfl,-⟩:=hP.at_ hrP;obtain⟨bB,oB,_,_,rfl,-⟩:=hB.at_ hrB;obtain⟨Aq,nq,cq,q0,q1,q2,hIQ,hqc,hqv⟩:=gj hP hpq (zE w).xt;obtain⟨Ab,nb,cb,b0,hIB,HNB⟩:=dQ hB hbk (zE w).xt;simp only at q0 q1 q2 hIQ hqc hqv;obtain⟨_,_,_,e9,-,-,hmq,HNQ⟩:=hIQ.open_;cases e9;have HIQ:=zZ hIQ;have HIB:=zZ hIB;have HBB:=zZ hbb;have HRL:=zZ hRl;have HHA:=zZ hB0.ascP;have hnb:nb≤12∧1≤nb:=by have:=HNB.out;omega
 have hnq:nq≤24∧1≤nq:=by have:=HNQ.out;omega
 obtain⟨hnb1,hnb2⟩:=hnb;obtain⟨hnq1,hnq2⟩:=hnq;have HN:Bx (t.sts.length≤1000∧t.pgs.length≤1000):=⟨⟨hn1,hn2⟩⟩
 clear hP hB hX hnum hS hG hB0 hx hd hv hok hpq hbk hbb hvp hbn hpn hbks hR hRl hRI hIQ hIB hqc hqv hn1 hn2 HLP HLB;obtain⟨w1,hw1⟩:=nm (((((w.alloc (.cells #[B C s.num,D (some ⟨bP,oP,none⟩) nP cP,D (some ⟨bB,oB,none⟩) nB cB,D AX nX cX] 27)).alloc (.cells #[D AS nS cS,D AG nG cG] 31)).alloc (.cells #[B C d,B C f,B C ld] 46)).alloc (.cells #[B C xa,B C xb,B C (r:Int)] 83)):World);have HF:Bx (ae w w1 [(w.heap.size,#[B C s.num,D (some ⟨bP,oP,none⟩) nP cP,D (some ⟨bB,oB,none⟩) nB cB,D AX nX cX],27),(w.heap.size+1,#[D AS nS cS,D AG nG cG],31),(w.heap.size+1+1,#[B C d,B C f,B C ld],46),(w.heap.size+1+1+1,#[B C xa,B C xb,B C (r:Int)],83)]):=⟨by rw[hw1];exact ((((ae.start w).push _ _ rfl).push _ _ (by simp)).push _ _ (by simp)).push _ _ (by simp)⟩
 go_enter func43,ntmps43
 go_upto_region 1 with (fail)
 rw[←hw1];clear hw1;go_cut [9,10] (fun s1 s2 we=>∃gP gB:Nat,s1=.pointer (some ⟨gP,0,none⟩)∧s2=.pointer (some ⟨gB,0,none⟩)∧Bx (ae w we [(w.heap.size,#[B C s.num,D (some ⟨bP,oP,none⟩) nP cP,D (some ⟨bB,oB,none⟩) nB cB,D AX nX cX],27),(w.heap.size+1,#[D AS nS cS,D AG nG cG],31),(w.heap.size+1+1,#[B C d,B C f,B C ld],46),(w.heap.size+1+1+1,#[B C xa,B C xb,B C (r:Int)],83),(gP,#[B C pc,B C pv,D Aq nq cq],89),(gB,#[D Ab nb cb],92)]))
 case first =>
  refine zR 15 (fun w'=>ae w w' [(w.heap.size,#[B C s.num,D (some ⟨bP,oP,none⟩) nP cP,D (some ⟨bB,oB,none⟩) nB cB,D AX nX cX],27),(w.heap.size+1,#[D AS nS cS,D AG nG cG],31),(w.heap.size+1+1,#[B C d,B C f,B C ld],46),(w.heap.size+1+1+1,#[B C xa,B C xb,B C (r:Int)],83)]) ?_;have kS:(fun w'=>ae w w' [(w.heap.size,#[B C s.num,D (some ⟨bP,oP,none⟩) nP cP,D (some ⟨bB,oB,none⟩) nB cB,D AX nX cX],27),(w.heap.size+1,#[D AS nS cS,D AG nG cG],31),(w.heap.size+1+1,#[B C d,B C f,B C ld],46),(w.heap.size+1+1+1,#[B C xa,B C xb,B C (r:Int)],83)]) w1.drew:=HF.out.drew;have kD:ab w1 w1.drew:=(zE _).drew;obtain⟨wz0,hwz0⟩:=nm (w1.drew:World);rw[←hwz0]at kS kD⊢;clear hwz0;refine zS 12 [(0,19),(1,20),(2,21),(3,22),(4,23),(5,24),(6,25),(7,26),(8,27),(9,28),(10,29),(11,30)] kS ?_;iterate 12 (apply zT;exact⟨rfl,rfl⟩;(·intro wk hk;have z1:=(hk.at_ 0 rfl).c 1 rfl;have z2:=(hk.at_ 0 rfl).c 2 rfl;have x2:=(hk.at_ 3 rfl).c 2 rfl;(replace q0:=hk.xt.cell q0);(replace q1:=hk.xt.cell q1);(replace q2:=hk.xt.cell q2);(replace b0:=hk.xt.cell b0);go_simp;try with_reducible rfl);simp only[kA];exact rfl)
  refine zN ?_;have HZ0:Bx (ae w wz0 [(w.heap.size,#[B C s.num,D (some ⟨bP,oP,none⟩) nP cP,D (some ⟨bB,oB,none⟩) nB cB,D AX nX cX],27),(w.heap.size+1,#[D AS nS cS,D AG nG cG],31),(w.heap.size+1+1,#[B C d,B C f,B C ld],46),(w.heap.size+1+1+1,#[B C xa,B C xb,B C (r:Int)],83)]):=⟨kS⟩
  refine bD 12 13 (by kernel_rfl) rfl rfl (fun K hK=>?_) (fun K hK=>?_)
  ·go_simp;obtain⟨wz1,hwz1⟩:=nm ((wz0.alloc (.cells #[B C 0,B C 0,D none 0 0] 89)):World);obtain⟨gz1,hgz1⟩:=nm wz0.heap.size;have HZ1:Bx (ae w wz1 [(w.heap.size,#[B C s.num,D (some ⟨bP,oP,none⟩) nP cP,D (some ⟨bB,oB,none⟩) nB cB,D AX nX cX],27),(w.heap.size+1,#[D AS nS cS,D AG nG cG],31),(w.heap.size+1+1,#[B C d,B C f,B C ld],46),(w.heap.size+1+1+1,#[B C xa,B C xb,B C (r:Int)],83),(gz1,#[B C 0,B C 0,D none 0 0],89)]):=⟨by rw[hwz1];exact HZ0.out.push _ _ hgz1.symm⟩
   rw[←hwz1,←hgz1];clear hwz1 hgz1;clear kS;have kS:=HZ1.out.take 4;refine hK.out _ _ (fun _=>kS) ?_;clear hK K;try simp only[kA]
   refine zO 13 (fun K hK=>?_);go_simp;obtain⟨wz2,hwz2⟩:=nm ((wz1.alloc (.cells #[D none 0 0] 92)):World);obtain⟨gz2,hgz2⟩:=nm wz1.heap.size;have HZ2:Bx (ae w wz2 [(w.heap.size,#[B C s.num,D (some ⟨bP,oP,none⟩) nP cP,D (some ⟨bB,oB,none⟩) nB cB,D AX nX cX],27),(w.heap.size+1,#[D AS nS cS,D AG nG cG],31),(w.heap.size+1+1,#[B C d,B C f,B C ld],46),(w.heap.size+1+1+1,#[B C xa,B C xb,B C (r:Int)],83),(gz1,#[B C 0,B C 0,D none 0 0],89),(gz2,#[D none 0 0],92)]):=⟨by rw[hwz2];exact HZ1.out.push _ _ hgz2.symm⟩
   rw[←hwz2,←hgz2];clear hwz2 hgz2;clear kS;have kS:=HZ2.out.take 4;refine hK.out _ _ (fun _=>kS) ?_;clear hK K;try simp only[kA]
   refine zO 14 (fun K hK=>?_);obtain⟨u0,u1,u2⟩:=(HZ2.out.at_ 4 rfl).p3 rfl;have v0:=(HZ2.out.at_ 4 rfl).froz;have v1:=v0;have v2:=v0;go_simp;have hZ3:=HZ2.out.setAll 4 rfl [B C pc,B C pv,D Aq nq cq] rfl;obtain⟨wz3,hwz3⟩:=nm ((((wz2.setCell ⟨gz1,0,none⟩ (B C pc)).setCell ⟨gz1,1,none⟩ (B C pv)).setCell ⟨gz1,2,none⟩ (D Aq nq cq)):World);have HZ3:Bx (ae w wz3 [(w.heap.size,#[B C s.num,D (some ⟨bP,oP,none⟩) nP cP,D (some ⟨bB,oB,none⟩) nB cB,D AX nX cX],27),(w.heap.size+1,#[D AS nS cS,D AG nG cG],31),(w.heap.size+1+1,#[B C d,B C f,B C ld],46),(w.heap.size+1+1+1,#[B C xa,B C xb,B C (r:Int)],83),(gz1,#[B C pc,B C pv,D Aq nq cq],89),(gz2,#[D none 0 0],92)]):=⟨by rw[hwz3];exact hZ3⟩
   rw[←hwz3];clear hwz3 hZ3 u0 v0 u1 v1 u2 v2;clear kS;have kS:=HZ3.out.take 4;refine hK.out _ _ (fun _=>kS) ?_;clear hK K;try simp only[kA]
   refine zO 15 (fun K hK=>?_);have u0:=(HZ3.out.at_ 5 rfl).c 0 rfl;have v0:=(HZ3.out.at_ 5 rfl).froz;go_simp;have hZ4:=HZ3.out.setAll 5 rfl [D Ab nb cb] rfl;obtain⟨wz4,hwz4⟩:=nm ((wz3.setCell ⟨gz2,0,none⟩ (D Ab nb cb)):World);have HZ4:Bx (ae w wz4 [(w.heap.size,#[B C s.num,D (some ⟨bP,oP,none⟩) nP cP,D (some ⟨bB,oB,none⟩) nB cB,D AX nX cX],27),(w.heap.size+1,#[D AS nS cS,D AG nG cG],31),(w.heap.size+1+1,#[B C d,B C f,B C ld],46),(w.heap.size+1+1+1,#[B C xa,B C xb,B C (r:Int)],83),(gz1,#[B C pc,B C pv,D Aq nq cq],89),(gz2,#[D Ab nb cb],92)]):=⟨by rw[hwz4];exact hZ4⟩
   rw[←hwz4];clear hwz4 hZ4 u0 v0;clear kS;have kS:=HZ4.out.take 4;refine hK.out _ _ (fun h=>absurd rfl h) ?_;clear hK K;refine zD ?_;go_wp2_with fail;have HFz:=HZ4;go_meet
   exact⟨gz1,gz2,rfl,rfl,HFz⟩
  ·go_simp;obtain⟨wz5,hwz5⟩:=nm ((wz0.alloc (.cells #[D none 0 0] 92)):World);obtain⟨gz5,hgz5⟩:=nm wz0.heap.size;have HZ5:Bx (ae w wz5 [(w.heap.size,#[B C s.num,D (some ⟨bP,oP,none⟩) nP cP,D (some ⟨bB,oB,none⟩) nB cB,D AX nX cX],27),(w.heap.size+1,#[D AS nS cS,D AG nG cG],31),(w.heap.size+1+1,#[B C d,B C f,B C ld],46),(w.heap.size+1+1+1,#[B C xa,B C xb,B C (r:Int)],83),(gz5,#[D none 0 0],92)]):=⟨by rw[hwz5];exact HZ0.out.push _ _ hgz5.symm⟩
   rw[←hwz5,←hgz5];clear hwz5 hgz5;clear kS;have kS:=HZ5.out.take 4;refine hK.out _ _ (fun _=>kS) ?_;clear hK K;try simp only[kA]
   refine zO 12 (fun K hK=>?_);go_simp;obtain⟨wz6,hwz6⟩:=nm ((wz5.alloc (.cells #[B C 0,B C 0,D none 0 0] 89)):World);obtain⟨gz6,hgz6⟩:=nm wz5.heap.size;have HZ6:Bx (ae w wz6 [(w.heap.size,#[B C s.num,D (some ⟨bP,oP,none⟩) nP cP,D (some ⟨bB,oB,none⟩) nB cB,D AX nX cX],27),(w.heap.size+1,#[D AS nS cS,D AG nG cG],31),(w.heap.size+1+1,#[B C d,B C f,B C ld],46),(w.heap.size+1+1+1,#[B C xa,B C xb,B C (r:Int)],83),(gz5,#[D none 0 0],92),(gz6,#[B C 0,B C 0,D none 0 0],89)]):=⟨by rw[hwz6];exact HZ5.out.push _ _ hgz6.symm⟩
   rw[←hwz6,←hgz6];clear hwz6 hgz6;clear kS;have kS:=HZ6.out.take 4;refine hK.out _ _ (fun _=>kS) ?_;clear hK K;try simp only[kA]
   refine zO 14 (fun K hK=>?_);obtain⟨u0,u1,u2⟩:=(HZ6.out.at_ 5 rfl).p3 rfl;have v0:=(HZ6.out.at_ 5 rfl).froz;have v1:=v0;have v2:=v0;go_simp;have hZ7:=HZ6.out.setAll 5 rfl [B C pc,B C pv,D Aq nq cq] rfl;obtain⟨wz7,hwz7⟩:=nm ((((wz6.setCell ⟨gz6,0,none⟩ (B C pc)).setCell ⟨gz6,1,none⟩ (B C pv)).setCell ⟨gz6,2,none⟩ (D Aq nq cq)):World);have HZ7:Bx (ae w wz7 [(w.heap.size,#[B C s.num,D (some ⟨bP,oP,none⟩) nP cP,D (some ⟨bB,oB,none⟩) nB cB,D AX nX cX],27),(w.heap.size+1,#[D AS nS cS,D AG nG cG],31),(w.heap.size+1+1,#[B C d,B C f,B C ld],46),(w.heap.size+1+1+1,#[B C xa,B C xb,B C (r:Int)],83),(gz5,#[D none 0 0],92),(gz6,#[B C pc,B C pv,D Aq nq cq],89)]):=⟨by rw[hwz7];exact hZ7⟩
   rw[←hwz7];clear hwz7 hZ7 u0 v0 u1 v1 u2 v2;clear kS;have kS:=HZ7.out.take 4;refine hK.out _ _ (fun _=>kS) ?_;clear hK K;try simp only[kA]
   refine zO 15 (fun K hK=>?_);have u0:=(HZ7.out.at_ 4 rfl).c 0 rfl;have v0:=(HZ7.out.at_ 4 rfl).froz;go_simp;have hZ8:=HZ7.out.setAll 4 rfl [D Ab nb cb] rfl;obtain⟨wz8,hwz8⟩:=nm ((wz7.setCell ⟨gz5,0,none⟩ (D Ab nb cb)):World);have HZ8:Bx (ae w wz8 [(w.heap.size,#[B C s.num,D (some ⟨bP,oP,none⟩) nP cP,D (some ⟨bB,oB,none⟩) nB cB,D AX nX cX],27),(w.heap.size+1,#[D AS nS cS,D AG nG cG],31),(w.heap.size+1+1,#[B C d,B C f,B C ld],46),(w.heap.size+1+1+1,#[B C xa,B C xb,B C (r:Int)],83),(gz5,#[D Ab nb cb],92),(gz6,#[B C pc,B C pv,D Aq nq cq],89)]):=⟨by rw[hwz8];exact hZ8⟩
   rw[←hwz8];clear hwz8 hZ8 u0 v0;clear kS;have kS:=HZ8.out.take 4;refine hK.out _ _ (fun h=>absurd rfl h) ?_;clear hK K;refine zD ?_;go_wp2_with fail;have HFz:Bx (ae w wz8 [(w.heap.size,#[B C s.num,D (some ⟨bP,oP,none⟩) nP cP,D (some ⟨bB,oB,none⟩) nB cB,D AX nX cX],27),(w.heap.size+1,#[D AS nS cS,D AG nG cG],31),(w.heap.size+1+1,#[B C d,B C f,B C ld],46),(w.heap.size+1+1+1,#[B C xa,B C xb,B C (r:Int)],83),(gz6,#[B C pc,B C pv,D Aq nq cq],89),(gz5,#[D Ab nb cb],92)]):=⟨ae.swap (L:=[(w.heap.size,#[B C s.num,D (some ⟨bP,oP,none⟩) nP cP,D (some ⟨bB,oB,none⟩) nB cB,D AX nX cX],27),(w.heap.size+1,#[D AS nS cS,D AG nG cG],31),(w.heap.size+1+1,#[B C d,B C f,B C ld],46),(w.heap.size+1+1+1,#[B C xa,B C xb,B C (r:Int)],83)]) HZ8.out⟩
   go_meet
   exact⟨gz6,gz5,rfl,rfl,HFz⟩
 case rest =>
  obtain⟨gP,gB,rfl,rfl,HE0⟩:=hcut;obtain⟨bq,oq,_,_,rfl,-⟩:=HIQ.out.at_ (show 0<nq by omega);go_wp2_with fail;go_loopw [11,12] (fun s11 s12 wr=>∃k:Nat,s12=B C k∧k≤nq∧Bx (ae w wr [(w.heap.size,#[B C s.num,D (some ⟨bP,oP,none⟩) nP cP,D (some ⟨bB,oB,none⟩) nB cB,D AX nX cX],27),(w.heap.size+1,#[D AS nS cS,D AG nG cG],31),(w.heap.size+1+1,#[B C d,B C f,B C ld],46),(w.heap.size+1+1+1,#[B C xa,B C xb,B C (r:Int)],83),(gP,#[B C pc,B C pv,D (some ⟨bq,oq,none⟩) nq cq],89),(gB,#[D Ab nb cb],92)]∧av wr w.heap.size s11 (R.take k))) (fun _ k _=>nq-(intOf k).toNat)
  case atStart=>exact⟨0,rfl,by omega,⟨⟨HE0.out,by simpa using av.nil wc w.heap.size⟩⟩⟩
  case round =>
   obtain⟨k,rfl,hk,HR⟩:=hrel;have HFr:Bx (ae w wr [(w.heap.size,#[B C s.num,D (some ⟨bP,oP,none⟩) nP cP,D (some ⟨bB,oB,none⟩) nB cB,D AX nX cX],27),(w.heap.size+1,#[D AS nS cS,D AG nG cG],31),(w.heap.size+1+1,#[B C d,B C f,B C ld],46),(w.heap.size+1+1+1,#[B C xa,B C xb,B C (r:Int)],83),(gP,#[B C pc,B C pv,D (some ⟨bq,oq,none⟩) nq cq],89),(gB,#[D Ab nb cb],92)]):=⟨HR.out.1⟩
   have HO:Bx (av wr w.heap.size _ (R.take k)):=⟨HR.out.2⟩
   obtain⟨Ao,co,hu⟩:=HO.out.form;rw[show (R.take k).length=k by rw[zF,HRL.out];have:=HNQ.out;omega]at hu;subst hu;clear HR HE0 HF;have p2:=(HFr.out.at_ 4 rfl).c 2 rfl;by_cases hkn:k<nq
   ·obtain⟨⟨kd,mx,tp,ob,op,ky⟩,r0,-,-,-,-,-,-,HPK⟩:=bg.part HIQ.out hkn;simp only at r0;have HV:=zZ (HAI.out k _ HPK.out);simp only at HV;obtain⟨jj,pg,hjp,hjm,hjo⟩:=Gc HBB.out (t:=k) (by have:=HNQ.out;omega);obtain⟨y,hpf,-,hpl,hpv⟩:=HAP.out jj pg hjp;have hjl:jj<bk.length:=(zY.1 hjp).1;have hjn:jj<12:=by have:=HNB.out;omega
    rw[hjo]at HV;have HJO:=zZ hjo;have HPF:=zZ hpf;have HPL:=zZ hpl;have HTK:Bx (∀z:Int,R[k]?=some z→R.take (k+1)=R.take k++[z]):=⟨fun z hz=>ag hz⟩
    replace r0:=HFr.out.xt.cell r0;clear hjp hjm hjo hpf hpl hpv hjl;by_cases hkd:kd=2;case neg =>
     have hkb:(kd==2)=false:=by simp[hkd]
     have HV1:=zZ (show R[k]?=some (-1) by rw[HV.out,if_neg hkd]);clear hkd HV;go_wp2_with (at_builtin;refine al _ rfl (.tmp 70) (.tmp 72) 22 rfl w.heap.size 3 i0 _ 8 underlying22 hi0 hz0 hz1 hz2 rfl (D Ao k co) _ _ rfl (ac HO.out.1 ((zE _).alloc _)) _ _ rfl (by simp;rfl) rfl (by have:=HO.out.2.2;omega) (by omega) (by have:=HFr.out.xt.size;simp;omega) ?_;intro v5 w5 hown5 hg5;have HF5:=zZ ((HFr.out.ext ((zE _).alloc _)).grownT (ac HO.out.1 ((zE _).alloc _)) hg5 (zX _) rfl);have HO5:=zZ hown5;clear hown5 hg5);go_roundw
     case rel =>
      refine⟨k+1,by go_num,by omega,⟨⟨HF5.out,?_⟩⟩⟩;rw[HTK.out _ HV1.out];refine⟨by simpa using HO5.out,fun z hz=>?_,by rw[zI,zF];simp;omega⟩;rcases zC.1 hz with hz|hz
      ·exact HO.out.2.1 z hz
      ·obtain rfl:z=-1:=by simpa using hz
       exact⟨by omega,by omega⟩
     case measure=>simp[intOf];omega
    subst hkd;have HV1:=zZ (show R[k]?=some ((bQ pc pv pps bk d f ld (jj:Int) ((bT t.pgs xa (jj:Int)).getD ⟨0,0,0,[],⟨0,0⟩⟩).ch).getD k 0) by rw[HV.out,if_pos rfl]);rw[HPF.out]at HV1;simp only[Option.getD_some]at HV1;have c0:=(HFr.out.at_ 5 rfl).c 0 rfl;go_upto_region 9 with (go_at_call 80;refine (tv _ bk (k:Int) _ (p:=p) (HIB.out.ext (RI.stab p) HFr.out.xt)).mono ?_;rintro e w3 ⟨rfl,hx3⟩;rw[HJO.out])
    have HF3:=bx (HFr.out.ext hx3);have HO3:=bx (HO.out.ext hx3);clear hx3 HFr HO p2 r0 c0 HV;have i0':=(HF3.out.at_ 1 rfl).c 0 rfl;have i1':=(HF3.out.at_ 1 rfl).c 1 rfl;have x0:=(HF3.out.at_ 3 rfl).c 0 rfl;go_upto_region 10 with (go_at_call 42;refine (jD _ t xa (jj:Int) _ (p:=p) (HT0.out.ext HF3.out.xt)).mono ?_;rintro e w5 ⟨yc,yg,yt,ys,yq,ych,yA,yn,ycc,rfl,hyd,hyi,hyw,hx5⟩)
    have HYE:Bx (y=⟨yc,yg,yt,ych,⟨ys,yq⟩⟩):=⟨by rw[HPF.out]at hyd;exact hyd⟩
    obtain⟨w6,hw6⟩:=nm ((w5.alloc (.cells #[B C yc,B C yg,B C yt,D yA yn ycc,B C ys,B C yq] 77)):World);obtain⟨gy,hgy⟩:=nm w5.heap.size;have hx6:ab w3 w6:=by rw[hw6];exact hx5.alloc _
    have HF6:=bx (HF3.out.ext hx6);have HO6:=bx (HO3.out.ext hx6);have HB6:Bx (Bk w6 gy #[B C yc,B C yg,B C yt,D yA yn ycc,B C ys,B C yq] 77):=⟨by rw[hw6,hgy];exact Bk.new _ _ _⟩
    have HY6:Bx (ao p w6 (D yA yn ycc) ych):=⟨hyi.ext hx6⟩
    rw[←hw6,←hgy];clear hw6 hgy hx5 hx6 hyd hyi hyw HF3 HO3 i0' i1' x0;obtain⟨p0,p1,p2⟩:=(HF6.out.at_ 4 rfl).p3 rfl;have c0:=(HF6.out.at_ 5 rfl).c 0 rfl;obtain⟨h0,h1,h2⟩:=(HF6.out.at_ 2 rfl).p3 rfl;have y3:=HB6.out.c 3 rfl;go_upto_region 11 with (go_at_call 81;refine (CD pc pv d f ld (jj:Int) _ _ _ pps bk ych _ (p:=p) (zP hp HF6.out.xt.size) (HIQ.out.ext (aI.stab p) HF6.out.xt) (HIB.out.ext (RI.stab p) HF6.out.xt) HY6.out ⟨by omega,by omega⟩).mono ?_;rintro e w7 ⟨v7,rfl,hi7,hx7⟩;obtain⟨A7,n7,c7,rfl,-,-,hm7,HL7⟩:=hi7.open_)
    have HF7:=bx (HF6.out.ext hx7);have HO7:=bx (HO6.out.ext hx7);have HI7:=zZ hi7;obtain rfl:=HYE.out;have HPL2:=HPL;simp only at HPL2 HV1;have hn7:nq=n7:=by have:=HL7.out;have:=HPL2.out;have:=HNQ.out;omega
    subst hn7;clear HPL HPF hi7 hx7 HF6 HO6 HB6 HY6 HYE p0 p1 p2 c0 h0 h1 h2 y3 HL7;obtain⟨b7,o7,zz,rfl,hc7,HZ7,hzz1,hzz2⟩:=HI7.out.at_ hkn;have HV2:=zZ (show R[k]?=some zz by rw[HV1.out];unfold List.getD;rw[HZ7.out];rfl)
    clear HV1 HZ7;go_wp2_with (at_builtin;refine al _ rfl (.tmp 70) (.tmp 72) 22 rfl w.heap.size 3 i0 _ 8 underlying22 hi0 hz0 hz1 hz2 rfl (D Ao k co) _ _ rfl (ac HO7.out.1 ((zE _).alloc _)) _ _ rfl (by simp;rfl) rfl (by have:=HO7.out.2.2;omega) (by omega) (by have:=HF7.out.xt.size;simp;omega) ?_;intro v5 w5 hown5 hg5;have HF5:=zZ ((HF7.out.ext ((zE _).alloc _)).grownT (ac HO7.out.1 ((zE _).alloc _)) hg5 (zX _) rfl);have HO5:=zZ hown5;clear hown5 hg5);go_roundw
    case rel =>
     refine⟨k+1,by go_num,by omega,⟨⟨HF5.out,?_⟩⟩⟩;rw[HTK.out _ HV2.out];refine⟨by simpa using HO5.out,fun z hz=>?_,by rw[zI,zF];simp;omega⟩;rcases zC.1 hz with hz|hz
     ·exact HO7.out.2.1 z hz
     ·obtain rfl:z=zz:=by simpa using hz
      exact⟨by omega,by omega⟩
    case measure=>simp[intOf];omega
   ·obtain rfl:k=nq:=by omega
    have HT:=zZ (show R.take k=R by rw[aD (by rw[HRL.out,HNQ.out])]);go_wp2_with fail;go_ret
    exact⟨⟨D Ao k co,rfl,by rw[←HT.out];exact HO.out⟩,HFr.out.xt⟩
theorem qw(v vi:Value)(s:aZ)(t:en)(d f ld:Int)(w:World)(hp:p<w.heap.size)(hs:aN p w v s)(ht:bN p w vi t)(hn1:t.sts.length≤1000)(hn2:t.pgs.length≤1000) :
  Calls prog 16 #[v,vi,.agg #[B C d,B C f,B C ld]] w (Ae w (mA s t d f ld) (kG s t d f ld)):=by
 obtain⟨i0,hi0,hz0,hz1,hz2⟩:=info_parts Tryz.infoI;obtain⟨iC,hiC,hC0,hC1,hC2⟩:=info_parts Tryz.infoScr;obtain⟨er,her⟩:=nm (mA s t d f ld:Int);obtain⟨lr,hlr⟩:=nm (kG s t d f ld:List oy);rw[←her,←hlr];have HER:=zZ her;have HLR:=zZ hlr;clear her hlr;have HS0:=zZ hs;have HT0:=zZ ht;obtain⟨vP,vB,vX,rfl,hP,hB,hX,hnum⟩:=hs;obtain⟨AP,nP,cP,rfl,-⟩:=hP.open_;obtain⟨AB,nB,cB,rfl,hnB,hcB,hmB,HLB⟩:=hB.open_;obtain⟨AX,nX,cX,rfl,hncX,hccX,hnnX,HLX⟩:=hX.open_;obtain⟨vS,vG,rfl,hS,hG⟩:=ht;obtain⟨AS,nS,cS,rfl,-⟩:=hS.open_;obtain⟨AG,nG,cG,rfl,-⟩:=hG.open_;have HX0:Bx (d7 p w (D AX nX cX) s.xp):=⟨hX⟩
 have HB0:Bx (gm p w (D AB nB cB) s.bk):=⟨hB⟩
 have HN:Bx (t.sts.length≤1000∧t.pgs.length≤1000):=⟨⟨hn1,hn2⟩⟩
 clear hP hB hX hnum hS hG hn1 hn2;obtain⟨w1,hw1⟩:=nm ((((w.alloc (.cells #[B C s.num,D AP nP cP,D AB nB cB,D AX nX cX] 27)).alloc (.cells #[D AS nS cS,D AG nG cG] 31)).alloc (.cells #[B C d,B C f,B C ld] 46)):World);have HF:Bx (ae w w1 [(w.heap.size,#[B C s.num,D AP nP cP,D AB nB cB,D AX nX cX],27),(w.heap.size+1,#[D AS nS cS,D AG nG cG],31),(w.heap.size+1+1,#[B C d,B C f,B C ld],46)]):=⟨by rw[hw1];exact (((ae.start w).push _ _ rfl).push _ _ (by simp)).push _ _ (by simp)⟩
 go_enter func16,ntmps16
 go_upto_region 1 with (fail)
 rw[←hw1];clear hw1;obtain⟨z0,z1,z2,z3⟩:=(HF.out.at_ 0 rfl).p4 rfl;obtain⟨i0,i1⟩:=(HF.out.at_ 1 rfl).p2 rfl;go_wp2_with fail;refine (iL _ _ s t _ (p:=p) (zP hp HF.out.xt.size) (HS0.out.ext HF.out.xt) (HT0.out.ext HF.out.xt) HN.out.1 HN.out.2).mono ?_;rintro e w2 ⟨rfl,hx2⟩;have HF2:=bx (HF.out.ext hx2);clear HF hx2 z0 z1 z2 z3 i0 i1;cases hb:aV s t with
 |false =>
  obtain rfl:er=1:=by rw[HER.out,mA,if_neg (by rw[hb];simp)]
  obtain rfl:lr=[]:=by rw[HLR.out,kG,if_neg (by rw[hb];simp)]
  clear hb;go_wp2_with fail;refine bodyPost_ret (v:=.tuple #[D none 0 0,B C 1]) (by simp[results,results16,go_sem]) rfl ⟨⟨D none 0 0,[],rfl,dq.nil _ _,rfl⟩,HF2.out.xt⟩
 |true =>
 have HBEL:=zZ (eQ.1 hb);have HP:=zZ (fn hb);have hnX:nX≤60:=by have:=HP.out.1.len.2.2;have:=HLX.out;omega
 obtain⟨hsn1,hsn2⟩:=HP.out.1.num;obtain⟨hh0,hh1,hh2⟩:=(HF2.out.at_ 2 rfl).p3 rfl;go_wp2_with fail;refine (ey d f ld _).mono ?_;rintro e w3 ⟨rfl,hx3⟩;have HF3:=bx (HF2.out.ext hx3);clear HF2 hx3 hh0 hh1 hh2;cases hvl:dp d f ld with
 |false =>
  obtain rfl:er=2:=by rw[HER.out,mA,if_pos hb,if_neg (by rw[hvl];simp)]
  obtain rfl:lr=[]:=by rw[HLR.out,kG,if_neg (by rw[hvl];simp)]
  clear hb hvl;go_wp2_with fail;refine bodyPost_ret (v:=.tuple #[D none 0 0,B C 2]) (by simp[results,results16,go_sem]) rfl ⟨⟨D none 0 0,[],rfl,dq.nil _ _,rfl⟩,HF3.out.xt⟩
 |true =>
 have HVL:=zZ hvl;obtain rfl:er=0:=by rw[HER.out,mA,if_pos hb,if_pos hvl]
 have HL2:=zZ (show lr=Do s t d f ld by rw[HLR.out,kG,if_pos ⟨hb,hvl⟩]);have hfd:=ll;clear hb hvl HER HLR;have z3:=(HF3.out.at_ 0 rfl).c 3 rfl;go_wp2_with fail;clear z3;go_loopw [8,9] (fun s8 s9 wr=>∃(k:Nat) (ys:List (oy×Value×Value)),s9=B C k∧k≤nX∧Bx (ae w wr [(w.heap.size,#[B C s.num,D AP nP cP,D AB nB cB,D AX nX cX],27),(w.heap.size+1,#[D AS nS cS,D AG nG cG],31),(w.heap.size+1+1,#[B C d,B C f,B C ld],46)]∧d8 w.heap.size wr s8 ys∧ys.map Prod.fst=((s.xp.take k).filter (bM s t)).map (sc s t d f ld))) (fun _ k _=>nX-(intOf k).toNat)
 case atStart=>exact⟨0,[],rfl,by omega,⟨⟨HF3.out,dq.nil _ _,rfl⟩⟩⟩
 case round =>
  obtain⟨k,ys,rfl,hk,HR⟩:=hrel;have HFr:Bx (ae w wr [(w.heap.size,#[B C s.num,D AP nP cP,D AB nB cB,D AX nX cX],27),(w.heap.size+1,#[D AS nS cS,D AG nG cG],31),(w.heap.size+1+1,#[B C d,B C f,B C ld],46)]):=⟨HR.out.1⟩
  have HO:Bx (d8 w.heap.size wr _ ys):=⟨HR.out.2.1⟩
  have HY:Bx (ys.map Prod.fst=((s.xp.take k).filter (bM s t)).map (sc s t d f ld)):=⟨HR.out.2.2⟩
  have hyl:ys.length≤k:=by have h1:=congrArg List.length HY.out;have h2:=xC (bM s t) (s.xp.take k);simp at h1 h2;omega
  obtain⟨Ao,co,hu⟩:=dq.form HO.out;obtain⟨no,hno⟩:=nm ys.length;rw[←hno]at hu hyl;subst hu;have HNO:=zZ hno;clear HR HF3 hno;have z3:=(HFr.out.at_ 0 rfl).c 3 rfl;by_cases hkn:k<nX
  ·obtain⟨bX,oX,_,_,rfl,-⟩:=HX0.out.at_ hkn;obtain⟨xa,xb,xd,HXX,x0,x1,x2⟩:=d7.read HX0.out HFr.out.xt.xt hkn;go_upto_region 10 with (fail)
   obtain⟨gx,hgx⟩:=nm wr.heap.size;obtain⟨w2,hw2⟩:=nm ((wr.alloc (.cells #[B C xa,B C xb,B C xd] 83)):World);have hx2:ab wr w2:=by rw[hw2];exact (zE _).alloc _
   have HF2:Bx (ae w w2 [(w.heap.size,#[B C s.num,D AP nP cP,D AB nB cB,D (some ⟨bX,oX,none⟩) nX cX],27),(w.heap.size+1,#[D AS nS cS,D AG nG cG],31),(w.heap.size+1+1,#[B C d,B C f,B C ld],46),(gx,#[B C xa,B C xb,B C xd],83)]):=⟨by rw[hw2];exact HFr.out.push _ _ hgx.symm⟩
   have HO2:=zZ (HO.out.ext hx2);rw[←hw2,←hgx];clear hw2 hgx hx2 x0 x1 x2 z3 HFr HO;have HMX:=zZ (rK HXX.out);have HFS:=zZ (qL HP.out.1.asc_ HMX.out);simp only at HFS;obtain⟨z0,z1,z2,z3⟩:=(HF2.out.at_ 0 rfl).p4 rfl;have i0':=(HF2.out.at_ 1 rfl).c 0 rfl;have i1':=(HF2.out.at_ 1 rfl).c 1 rfl;obtain⟨x0,x1,x2⟩:=(HF2.out.at_ 3 rfl).p3 rfl;cases hdn:bM s t ⟨xa,xb,xd⟩ with
   |false =>
    have hstb:((bW s t ⟨xa,xb,xd⟩).state != 1)=true:=by have:=lm hdn;simp[this]
    have HTK:=zZ (show (s.xp.take (k+1)).filter (bM s t)=(s.xp.take k).filter (bM s t) by rw[ag HXX.out,yJ,wW (by rw[hdn];simp)];simp);clear hdn;go_wp2_with (go_at_call 36;refine (eZ _ _ s t xa xb xd _ (p:=p) (zP hp HF2.out.xt.size) (HS0.out.ext HF2.out.xt) (HT0.out.ext HF2.out.xt) HP.out.1 HMX.out HN.out.1).mono ?_;rintro e w6 ⟨⟨vp,rfl,hvp⟩,hx6⟩;obtain⟨Ap,cp,rfl⟩:=hvp.form;clear hvp;have HF6:=zZ ((HF2.out.take 3).ext hx6);have HO6:=zZ (HO2.out.ext hx6));go_roundw
    case rel=>exact⟨k+1,ys,by go_num,by omega,⟨⟨HF6.out,HO6.out,by rw[HTK.out];exact HY.out⟩⟩⟩
    case measure=>simp[intOf];omega
   |true =>
    have HDN0:=zZ hdn;have HST:=zZ (iI hdn);have HTK:=zZ (show (s.xp.take (k+1)).filter (bM s t)=(s.xp.take k).filter (bM s t)++[⟨xa,xb,xd⟩] by rw[ag HXX.out,yJ,wX hdn];simp);clear hdn;go_upto_region 11 with (go_at_call 36;refine (eZ _ _ s t xa xb xd _ (p:=p) (zP hp HF2.out.xt.size) (HS0.out.ext HF2.out.xt) (HT0.out.ext HF2.out.xt) HP.out.1 HMX.out HN.out.1).mono ?_;rintro e w6 ⟨⟨vp,rfl,hvp⟩,hx6⟩;obtain⟨Ap,cp,rfl⟩:=hvp.form;clear hvp;rw[HST.out])
    have HF6:=zZ (HF2.out.ext hx6);have HO6:=zZ (HO2.out.ext hx6);have hxb:=fw HP.out.1 HMX.out;simp only at hxb;obtain⟨xb1,xb2,xb3,xb4,xb5,xb6⟩:=hxb;obtain⟨pq,bk,hpq,hbk,hbb,-,-,-⟩:=gQ HP.out.1 xb3 xb4;have hbn:=kJ hbb;have hnp:fA s xd=bk.length:=by unfold fA;rw[hbk];rfl
    have hbks:=HP.out.1.bks;obtain⟨r,rfl⟩:=zG xb3;rw[yR]at hpq hbk;have hrB:r<nB:=by have:=HLB.out;omega
    obtain⟨bB,oB,_,_,rfl,-⟩:=HB0.out.at_ hrB;obtain⟨Ab,nb,cb,b0,-,HNB⟩:=dQ HB0.out hbk (zE w).xt;have hnb:nb≤12:=by have:=HNB.out;omega
    have HNP:=zZ (show fA s (r:Int)=nb by rw[hnp,HNB.out]);have HDN:=HDN0;clear hpq hbk hbb hbn hnp hbks hx6 HF2 HO2 z0 z1 z2 z3 i0' i1' x0 x1 x2 HDN0;obtain⟨z0,z1,z2,z3⟩:=(HF6.out.at_ 0 rfl).p4 rfl;obtain⟨x0,x1,x2⟩:=(HF6.out.at_ 3 rfl).p3 rfl;have HF7:Bx (ae w _ [(w.heap.size,#[B C s.num,D AP nP cP,D (some ⟨bB,oB,none⟩) nB cB,D (some ⟨bX,oX,none⟩) nX cX],27),(w.heap.size+1,#[D AS nS cS,D AG nG cG],31),(w.heap.size+1+1,#[B C d,B C f,B C ld],46),(gx,#[B C xa,B C xb,B C (r:Int)],83)]):=⟨HF6.out⟩
    have HO7:=HO6;obtain⟨w7,rfl⟩:=nm (w6:World);clear HF6 HO6;go_upto_region 12 with (fail)
    obtain⟨gs,hgs⟩:=nm w7.heap.size;obtain⟨w8,hw8⟩:=nm ((w7.alloc (.cells #[B C (s.num*10000+xa),B C s.num,B C xa,B C xb,B C (r:Int),D none 0 0,D none 0 0] 54)):World);have HF8:Bx (ae w w8 [(w.heap.size,#[B C s.num,D AP nP cP,D (some ⟨bB,oB,none⟩) nB cB,D (some ⟨bX,oX,none⟩) nX cX],27),(w.heap.size+1,#[D AS nS cS,D AG nG cG],31),(w.heap.size+1+1,#[B C d,B C f,B C ld],46),(gx,#[B C xa,B C xb,B C (r:Int)],83),(gs,#[B C (s.num*10000+xa),B C s.num,B C xa,B C xb,B C (r:Int),D none 0 0,D none 0 0],54)]):=⟨by rw[hw8];exact HF7.out.push _ _ hgs.symm⟩
    have HKO:Bx (∀wx,XT gs w8 wx→d8 w.heap.size wx (D Ao no co) ys):=⟨fun wx hx=>HO7.out.keep (w8:=w8) (gs:=gs) (by omega) (by rw[hw8];exact (zE _).alloc _) hx⟩
    have HW8:=bx (HF8.out.xt.size);rw[←hw8,←hgs];clear hw8 hgs HF7 HO7 z0 z1 z2 z3 x0 x1 x2;have hb0:=b0;go_wp2_with fail;obtain⟨wo,rfl⟩:=nm (w8:World);go_loopw [12] (fun s72 wr=>∃(m:Nat) (v5:Value),s72=B C m∧m≤nb∧Bx (ae w wr [(w.heap.size,#[B C s.num,D AP nP cP,D (some ⟨bB,oB,none⟩) nB cB,D (some ⟨bX,oX,none⟩) nX cX],27),(w.heap.size+1,#[D AS nS cS,D AG nG cG],31),(w.heap.size+1+1,#[B C d,B C f,B C ld],46),(gx,#[B C xa,B C xb,B C (r:Int)],83),(gs,#[B C (s.num*10000+xa),B C s.num,B C xa,B C xb,B C (r:Int),v5,D none 0 0],54)]∧XT gs wo wr∧av wr wo.heap.size v5 (ee t xa m))) (fun m _=>nb-(intOf m).toNat)
    case atStart=>exact⟨0,D none 0 0,rfl,by omega,⟨⟨HF8.out,XT.refl _ _,by simpa[ee] using av.nil wo wo.heap.size⟩⟩⟩
    case round =>
     obtain⟨m,v5,rfl,hm,HR⟩:=hrel;obtain⟨A5,c5,hu⟩:=HR.out.2.2.form;rw[fY]at hu;subst hu;have HF10:Bx (ae w wr [(w.heap.size,#[B C s.num,D AP nP cP,D (some ⟨bB,oB,none⟩) nB cB,D (some ⟨bX,oX,none⟩) nX cX],27),(w.heap.size+1,#[D AS nS cS,D AG nG cG],31),(w.heap.size+1+1,#[B C d,B C f,B C ld],46),(gx,#[B C xa,B C xb,B C (r:Int)],83),(gs,#[B C (s.num*10000+xa),B C s.num,B C xa,B C xb,B C (r:Int),D A5 m c5,D none 0 0],54)]):=⟨HR.out.1⟩
     have HX10:Bx (XT gs wo wr):=⟨HR.out.2.1⟩
     have HI10:Bx (av wr wo.heap.size (D A5 m c5) (ee t xa m)):=⟨HR.out.2.2⟩
     clear HR HF8;have t2:=(HF10.out.at_ 0 rfl).c 2 rfl;have u2:=(HF10.out.at_ 3 rfl).c 2 rfl;replace b0:=HF10.out.xt.cell hb0;by_cases hmn:m<nb
     ·have i0':=(HF10.out.at_ 1 rfl).c 0 rfl;have i1':=(HF10.out.at_ 1 rfl).c 1 rfl;have x0:=(HF10.out.at_ 3 rfl).c 0 rfl;go_upto_region 16 with (go_at_call 42;refine (jD _ t xa (m:Int) _ (p:=p) (HT0.out.ext HF10.out.xt)).mono ?_;rintro e w11 ⟨yc,yg,yt,ys',yq,ych,yA,yn,ycc,rfl,hyd,-,hyw,hx11⟩)
      have HCT:=zZ (show ee t xa (m+1)=ee t xa m++[yt] by rw[oz,Bv hyd]);have hyt:aC yt:=hyw.2.2.1;obtain⟨gp,hgp⟩:=nm w11.heap.size;obtain⟨w12,hw12⟩:=nm ((w11.alloc (.cells #[B C yc,B C yg,B C yt,D yA yn ycc,B C ys',B C yq] 77)):World);have hx12:ab wr w12:=by rw[hw12];exact hx11.alloc _
      have HB12:Bx (Bk w12 gp #[B C yc,B C yg,B C yt,D yA yn ycc,B C ys',B C yq] 77):=⟨by rw[hw12,hgp];exact Bk.new _ _ _⟩
      have HF12:=bx (HF10.out.ext hx12);have HX12:=bx (HX10.out.ext hx12);have HI12:=bx (HI10.out.ext hx12);have HW12:Bx (wo.heap.size≤w12.heap.size):=⟨HX12.out.size⟩
      rw[←hw12,←hgp];clear hw12 hgp hx11 hx12 hyd hyw HF10 HX10 HI10 i0' i1' x0 t2 u2 b0;obtain⟨o0,o1,o2,o3,o4,o5,o6⟩:=(HF12.out.at_ 4 rfl).p7 rfl;have g0:=(HF12.out.at_ 4 rfl).froz;have g1:=g0;have g2:=g0;have g3:=g0;have g4:=g0;have g5:=g0;have g6:=g0;have y2:=HB12.out.c 2 rfl;go_wp2_with (at_builtin;refine al _ rfl (.tmp 76) (.tmp 79) 22 rfl wo.heap.size 3 i0 _ 8 underlying22 hi0 hz0 hz1 hz2 rfl (D A5 m c5) _ _ rfl (ac HI12.out.1 ((zE _).alloc _)) _ _ rfl (by simp;rfl) rfl (by rw[fY];omega) (by omega) (by have:=HW12.out;simp;omega) ?_;intro v13 w13 hown13 hg13;obtain⟨A13,c13,hv13⟩:=pY hown13;obtain⟨n13,hn13⟩:=nm ((ee t xa m).length+1);rw[←hn13]at hv13 hown13;subst hv13;have HN13:=zZ hn13;clear hn13;have HF13:=zZ ((HF12.out.ext ((zE _).alloc _)).grownT (ac HI12.out.1 ((zE _).alloc _)) hg13 HW8.out rfl);have HX13:=zZ ((HX12.out.alloc _).grown hg13 (ar HI12.out.1));have HO13:=zZ hown13;clear hown13 hg13 o0 o1 o2 o3 o4 o5 o6 g0 g1 g2 g3 g4 g5 g6;have o0:=(HF13.out.at_ 4 rfl).c 0 rfl;have o1:=(HF13.out.at_ 4 rfl).c 1 rfl;have o2:=(HF13.out.at_ 4 rfl).c 2 rfl;have o3:=(HF13.out.at_ 4 rfl).c 3 rfl;have o4:=(HF13.out.at_ 4 rfl).c 4 rfl;have o5:=(HF13.out.at_ 4 rfl).c 5 rfl;have o6:=(HF13.out.at_ 4 rfl).c 6 rfl;have g5:=(HF13.out.at_ 4 rfl).froz 5);have HI13:Bx (av w13 wo.heap.size (D A13 n13 c13) (ee t xa (m+1))):=⟨by
       rw[HCT.out];have h5:=HO13.out;rw[HN13.out]at h5⊢;refine⟨by simpa using h5,fun z hz=>?_,by simp[fY];omega⟩;rcases zC.1 hz with hz|hz
       ·exact HI12.out.2.1 z hz
       ·obtain rfl:z=yt:=by simpa using hz
        exact hyt⟩
      have hF14:=HF13.out.set 4 rfl 5 (D A13 n13 c13);have hV14:=HI13.out.far (HF13.out.at_ 4 rfl) (by decide) 5 (D A13 n13 c13);have hX14:=HX13.out.setCell (a:=⟨gs,5,none⟩) rfl (D A13 n13 c13);go_roundw
      case rel=>exact⟨m+1,D A13 n13 c13,by go_num,by omega,⟨⟨hF14,hX14,hV14⟩⟩⟩
      case measure=>simp[intOf];omega
     ·obtain rfl:m=nb:=by omega
      obtain⟨z0,z1,z2,z3⟩:=(HF10.out.at_ 0 rfl).p4 rfl;have i0':=(HF10.out.at_ 1 rfl).c 0 rfl;have i1':=(HF10.out.at_ 1 rfl).c 1 rfl;obtain⟨h0,h1,h2⟩:=(HF10.out.at_ 2 rfl).p3 rfl;obtain⟨x0,x1,x2⟩:=(HF10.out.at_ 3 rfl).p3 rfl;have HFQ:=HF10;go_upto_region 18 with (go_at_call 43;refine (lf _ _ s t d f ld xa xb (r:Int) _ (p:=p) (zP hp HFQ.out.xt.size) (HS0.out.ext HFQ.out.xt) (HT0.out.ext HFQ.out.xt) HBEL.out HFS.out HDN.out HVL.out HN.out.1 HN.out.2).mono ?_;rintro e w7 ⟨⟨va,rfl,hva⟩,hx7⟩;obtain⟨A2,c2,rfl⟩:=hva.form;have HF11:=zZ (HF10.out.ext hx7);have HX11:=zZ (HX10.out.ext hx7);have HI11:=zZ (HI10.out.ext hx7);have HA11:=zZ (hva.base_ HF10.out.xt.size);clear hva hx7 z0 z1 z2 z3 i0' i1' h0 h1 h2 x0 x1 x2;have o0:=(HF11.out.at_ 4 rfl).c 0 rfl;have o1:=(HF11.out.at_ 4 rfl).c 1 rfl;have o2:=(HF11.out.at_ 4 rfl).c 2 rfl;have o3:=(HF11.out.at_ 4 rfl).c 3 rfl;have o4:=(HF11.out.at_ 4 rfl).c 4 rfl;have o5:=(HF11.out.at_ 4 rfl).c 5 rfl;have o6:=(HF11.out.at_ 4 rfl).c 6 rfl;have g6:=(HF11.out.at_ 4 rfl).froz 6)
      obtain⟨n2,hn2⟩:=nm ((fC s t d f ld ⟨xa,xb,(r:Int)⟩).length);rw[←hn2]at HA11;rw[←hn2];have hF12:=HF11.out.set 4 rfl 6 (D A2 n2 c2);have hV12:=HI11.out.far (HF11.out.at_ 4 rfl) (by decide) 6 (D A2 n2 c2);have hA12:=HA11.out.far (HF11.out.at_ 4 rfl) (by decide) 6 (D A2 n2 c2);have hX12:=HX11.out.setCell (a:=⟨gs,6,none⟩) rfl (D A2 n2 c2);obtain⟨w12,hw12⟩:=nm ((w7.setCell ⟨gs,6,none⟩ (D A2 n2 c2)):World);rw[←hw12]at hF12 hV12 hA12 hX12;rw[←hw12];have HF12:Bx (ae w w12 [(w.heap.size,#[B C s.num,D AP nP cP,D (some ⟨bB,oB,none⟩) nB cB,D (some ⟨bX,oX,none⟩) nX cX],27),(w.heap.size+1,#[D AS nS cS,D AG nG cG],31),(w.heap.size+1+1,#[B C d,B C f,B C ld],46),(gx,#[B C xa,B C xb,B C (r:Int)],83),(gs,#[B C (s.num*10000+xa),B C s.num,B C xa,B C xb,B C (r:Int),D A5 m c5,D A2 n2 c2],54)]):=⟨hF12⟩
      have HI12:=zZ hV12;have HA12:=zZ hA12;have HO12:=zZ (HKO.out _ hX12);clear hw12 hF12 hV12 hA12 hX12 hn2 HF11 HX11 HI11 HA11 HF10 HX10 HI10 HFQ o0 o1 o2 o3 o4 o5 o6 g6 b0 t2 u2;obtain⟨o0,o1,o2,o3,o4,o5,o6⟩:=(HF12.out.at_ 4 rfl).p7 rfl;have HOW:=zZ (show World.ownsRow _ w.heap.size 54 7 (D Ao no co) no (ys.map ws).flatten from by have h:=HO12.out.own.own;rw[←HNO.out]at h;exact h);go_wp2_with (at_builtin;go_loud (refine aH _ rfl (.tmp 88) (.tmp 90) 48 rfl w.heap.size 54 iC _ 7 88 underlying48 hiC hC0 hC1 hC2 rfl (by omega) (D Ao no co) no (ys.map ws).flatten rfl (ac HOW.out ((zE _).alloc _)) _ #[B C (s.num*10000+xa),B C s.num,B C xa,B C xb,B C (r:Int),D A5 m c5,D A2 n2 c2] _ rfl (heap_alloc_new _ _) rfl (by simp[Value.oneCell']) (by omega) (by omega) (by have:=HF12.out.xt.size;simp;omega) ?_;intro v14 w14 hown14 hg14;have H14:Bx (d8 w.heap.size w14 v14 (ys++[(sc s t d f ld ⟨xa,xb,(r:Int)⟩,D A5 m c5,D A2 n2 c2)])∧ae w w14 [(w.heap.size,#[B C s.num,D AP nP cP,D (some ⟨bB,oB,none⟩) nB cB,D (some ⟨bX,oX,none⟩) nX cX],27),(w.heap.size+1,#[D AS nS cS,D AG nG cG],31),(w.heap.size+1+1,#[B C d,B C f,B C ld],46)]):=⟨⟨dq.push (f:=ws) (HO12.out.ext ((zE _).alloc _)) (by have h:=hown14;rw[HNO.out]at h;exact h) (fun y hy=>⟨av.apart hy.1 (ac HOW.out ((zE _).alloc _)) (by decide) hg14,av.apart hy.2 (ac HOW.out ((zE _).alloc _)) (by decide) hg14⟩) ⟨av.apart (show av _ w.heap.size (D A5 m c5) (ee t xa (fA s (r:Int))) from by rw[HNP.out];exact (HI12.out.base_ HW8.out).ext ((zE _).alloc _)) (ac HOW.out ((zE _).alloc _)) (by decide) hg14,av.apart (HA12.out.ext ((zE _).alloc _)) (ac HOW.out ((zE _).alloc _)) (by decide) hg14⟩,((HF12.out.take 3).ext ((zE _).alloc _)).grownT (ac HOW.out ((zE _).alloc _)) hg14 (zX _) rfl⟩⟩;clear hown14 hg14));go_roundw
      case rel=>exact⟨k+1,_,by go_num,by omega,⟨⟨H14.out.2,H14.out.1,by rw[HTK.out];simp[HY.out]⟩⟩⟩
      case measure=>simp[intOf];omega
  ·obtain rfl:k=nX:=by omega
   have HE:=zZ (show ((s.xp.take k).filter (bM s t)).map (sc s t d f ld)=Do s t d f ld by rw[aD (by have:=HLX.out;omega)];rfl);go_wp2_with fail;refine bodyPost_ret (v:=.tuple #[D Ao no co,B C 0]) (by simp[results,results16,go_sem]) rfl ⟨⟨D Ao no co,ys,rfl,HO.out,by rw[HY.out,HE.out,HL2.out]⟩,HFr.out.xt⟩
def ij:ai:=⟨1,3,0,0,0,0⟩
def qz:aZ:=⟨0,[⟨0,0,[ij]⟩],[[[],[0],[],[]]],[⟨5,1,0⟩]⟩
theorem tB:eU 0 0 [ij] [[],[0],[],[]]=true:=by
 refine nt ⟨by decide,by decide,by decide,fun l h=>by simp at h;first|exact h|exact h.symm,?_⟩;simp only[cT,kz,kV,lA,ij];refine⟨⟨⟨by decide,fun i y hi=>by simp at hi⟩,by decide⟩,⟨⟨by decide,fun i y hi hy=>?_⟩,by decide⟩,⟨⟨by decide,fun i y hi=>by simp at hi⟩,by decide⟩,⟨⟨by decide,fun i y hi=>by simp at hi⟩,by decide⟩,by decide⟩;obtain rfl:i=0:=by simp at hi;exact hi
 simp at hy;simp[←hy]
theorem Ip:cD qz:=by
 refine⟨by decide,by decide,rfl,fun i hi=>?_,fun x hx=>?_,fun i hi=>?_⟩
 ·obtain rfl:i=0:=by simp[qz]at hi;omega
  show (d9 0 0 [ij]&&(decide ((0:Int)=0)&&(decide ((0:Int)=((0:Nat):Int))&&eU 0 0 [ij] [[],[0],[],[]])))=true
  rw[tB];rfl
 ·obtain rfl:x=⟨5,1,0⟩:=by simpa[qz] using hx
  rfl
 ·simp[qz]at hi
theorem FZ(hj:j<4):be qz ⟨0,5,(j:Int),0⟩ []=true:=by
 refine jS.2 ⟨⟨5,1,0⟩,⟨0,0,[ij]⟩,[[],[0],[],[]],rfl,rfl,rfl,rfl,rfl,by simp only;omega,by simp only[xT,List.length_nil];omega,?_,rfl⟩;simp only;rcases (by omega:j=0∨j=1∨j=2∨j=3) with rfl|rfl|rfl|rfl
 ·rw[dE tB (pg:=[]) rfl];rfl
 ·rw[dE tB (pg:=[0]) rfl];rfl
 ·rw[dE tB (pg:=[]) rfl];rfl
 ·rw[dE tB (pg:=[]) rfl];rfl
def ql(j:Nat):aY:=⟨⟨0,(j:Int)⟩,1,⟨0,5,(j:Int),0⟩⟩
def Cw(j:Nat):Pg:=⟨5,(j:Int),10+(j:Int),[],⟨0,(j:Int)⟩⟩
def ib(k:Nat):en:=⟨(List.range k).map ql,(List.range k).map Cw⟩
theorem Ic(hj:j<k)(hk:k≤4):ia (ib k).sts ⟨0,(j:Int)⟩=some (ql j):=by rcases (by omega:k=1∨k=2∨k=3∨k=4) with rfl|rfl|rfl|rfl<;>rcases (by omega:j=0∨j=1∨j=2∨j=3) with rfl|rfl|rfl|rfl<;>first|rfl|omega
theorem rD(hk:k≤4):vk qz (ib k):=by
 refine G1 (eV.2 Ip) ?_ ?_ ?_ ?_ ?_
 ·rcases (by omega:k=0∨k=1∨k=2∨k=3∨k=4) with rfl|rfl|rfl|rfl|rfl<;>simp[ib,fB,ql,aW,gY,List.range,List.range.loop]
 ·intro x hx;obtain⟨j,_,rfl⟩:=zJ.1 hx;exact⟨by simp[ql],by simp[ql]⟩
 ·rcases (by omega:k=0∨k=1∨k=2∨k=3∨k=4) with rfl|rfl|rfl|rfl|rfl<;>rfl
 ·rcases (by omega:k=0∨k=1∨k=2∨k=3∨k=4) with rfl|rfl|rfl|rfl|rfl<;>simp[ib,fB,Cw,cM,List.range,List.range.loop]
 ·intro q hq;obtain⟨j,hj,rfl⟩:=zJ.1 hq;have hjk:=zB.1 hj;rw[gv (x:=⟨5,1,0⟩) (y:=ql j) rfl (Ic hjk hk)];have h1:(ql j).lab=⟨qz.num,(Cw j).cand,(Cw j).page,0⟩:=rfl;rw[show decide ((ql j).state=1)=true from rfl,decide_eq_true h1];exact FZ (by omega)
theorem Cx:qz.xp.map (bW qz (ib 2))=[⟨5,2,[2,3]⟩]:=rfl
theorem Er:bU qz (ib 4) [⟨5,0,5,1,0,[10,11,12,13],[-1]⟩]=true:=by
 refine qV (eQ.2 (rD (by omega))) fun k hk=>?_;obtain rfl:k=0:=by simp at hk;omega
 rfl
theorem EL:mA qz (ib 4) 6 3 2=0∧kG qz (ib 4) 6 3 2=[⟨5,0,5,1,0,[10,11,12,13],[-1]⟩]:=by have hb:=eQ.2 (rD (k:=4) (by omega));have hv:dp 6 3 2=true:=rfl;exact⟨by unfold mA;rw[if_pos hb,if_pos hv],by unfold kG;rw[if_pos ⟨hb,hv⟩];rfl⟩
theorem pZ(v vi:Value)(s:aZ)(t:en)(d f ld:Int)(w:World)(hp:p<w.heap.size)(hs:aN p w v s)(ht:bN p w vi t)(hn1:t.sts.length≤1000)(hn2:t.pgs.length≤1000) :
  Calls prog 15 #[v,vi,.agg #[B C d,B C f,B C ld]] w (Ae w (mA s t d f ld) (kG s t d f ld)):=by
 obtain⟨i0,hi0,hz0,hz1,hz2⟩:=info_parts Tryz.infoI;obtain⟨iC,hiC,hC0,hC1,hC2⟩:=info_parts Tryz.infoScr;obtain⟨er,her⟩:=nm (mA s t d f ld:Int);obtain⟨lr,hlr⟩:=nm (kG s t d f ld:List oy);rw[←her,←hlr];have HER:=zZ her;have HLR:=zZ hlr;clear her hlr;have HS0:=zZ hs;have HT0:=zZ ht;obtain⟨vP,vB,vX,rfl,hP,hB,hX,hnum⟩:=hs;obtain⟨AP,nP,cP,rfl,-⟩:=hP.open_;obtain⟨AB,nB,cB,rfl,hnB,hcB,hmB,HLB⟩:=hB.open_;obtain⟨AX,nX,cX,rfl,hncX,hccX,hnnX,HLX⟩:=hX.open_;obtain⟨vS,vG,rfl,hS,hG⟩:=ht;obtain⟨AS,nS,cS,rfl,-⟩:=hS.open_;obtain⟨AG,nG,cG,rfl,-⟩:=hG.open_;have HX0:Bx (d7 p w (D AX nX cX) s.xp):=⟨hX⟩
 have HB0:Bx (gm p w (D AB nB cB) s.bk):=⟨hB⟩
 have HN:Bx (t.sts.length≤1000∧t.pgs.length≤1000):=⟨⟨hn1,hn2⟩⟩
 clear hP hB hX hnum hS hG hn1 hn2;obtain⟨w1,hw1⟩:=nm ((((w.alloc (.cells #[B C s.num,D AP nP cP,D AB nB cB,D AX nX cX] 27)).alloc (.cells #[D AS nS cS,D AG nG cG] 31)).alloc (.cells #[B C d,B C f,B C ld] 46)):World);have HF:Bx (ae w w1 [(w.heap.size,#[B C s.num,D AP nP cP,D AB nB cB,D AX nX cX],27),(w.heap.size+1,#[D AS nS cS,D AG nG cG],31),(w.heap.size+1+1,#[B C d,B C f,B C ld],46)]):=⟨by rw[hw1];exact (((ae.start w).push _ _ rfl).push _ _ (by simp)).push _ _ (by simp)⟩
 go_enter func15,ntmps15
 go_upto_region 1 with (fail)
 rw[←hw1];clear hw1;obtain⟨z0,z1,z2,z3⟩:=(HF.out.at_ 0 rfl).p4 rfl;obtain⟨i0,i1⟩:=(HF.out.at_ 1 rfl).p2 rfl;go_wp2_with fail;refine (gN _ _ s t _ (p:=p) (zP hp HF.out.xt.size) (HS0.out.ext HF.out.xt) (HT0.out.ext HF.out.xt) HN.out.1 HN.out.2).mono ?_;rintro e w2 ⟨rfl,hx2⟩;have HF2:=bx (HF.out.ext hx2);clear HF hx2 z0 z1 z2 z3 i0 i1;cases hb:aV s t with
 |false =>
  obtain rfl:er=1:=by rw[HER.out,mA,if_neg (by rw[hb];simp)]
  obtain rfl:lr=[]:=by rw[HLR.out,kG,if_neg (by rw[hb];simp)]
  clear hb;go_wp2_with fail;refine bodyPost_ret (v:=.tuple #[D none 0 0,B C 1]) (by simp[results,results15,go_sem]) rfl ⟨⟨D none 0 0,[],rfl,dq.nil _ _,rfl⟩,HF2.out.xt⟩
 |true =>
 have HBEL:=zZ (eQ.1 hb);have HP:=zZ (fn hb);have hnX:nX≤60:=by have:=HP.out.1.len.2.2;have:=HLX.out;omega
 obtain⟨hsn1,hsn2⟩:=HP.out.1.num;obtain⟨hh0,hh1,hh2⟩:=(HF2.out.at_ 2 rfl).p3 rfl;go_wp2_with fail;refine (fm d f ld _).mono ?_;rintro e w3 ⟨rfl,hx3⟩;have HF3:=bx (HF2.out.ext hx3);clear HF2 hx3 hh0 hh1 hh2;cases hvl:dp d f ld with
 |false =>
  obtain rfl:er=2:=by rw[HER.out,mA,if_pos hb,if_neg (by rw[hvl];simp)]
  obtain rfl:lr=[]:=by rw[HLR.out,kG,if_neg (by rw[hvl];simp)]
  clear hb hvl;go_wp2_with fail;refine bodyPost_ret (v:=.tuple #[D none 0 0,B C 2]) (by simp[results,results15,go_sem]) rfl ⟨⟨D none 0 0,[],rfl,dq.nil _ _,rfl⟩,HF3.out.xt⟩
 |true =>
 have HVL:=zZ hvl;obtain rfl:er=0:=by rw[HER.out,mA,if_pos hb,if_pos hvl]
 have HL2:=zZ (show lr=Do s t d f ld by rw[HLR.out,kG,if_pos ⟨hb,hvl⟩]);have hfd:=ll;clear hb hvl HER HLR;have z3:=(HF3.out.at_ 0 rfl).c 3 rfl;go_wp2_with fail;clear z3;go_loopw [8,27] (fun s8 s9 wr=>∃(k:Nat) (ys:List (oy×Value×Value)),s9=B C k∧k≤nX∧Bx (ae w wr [(w.heap.size,#[B C s.num,D AP nP cP,D AB nB cB,D AX nX cX],27),(w.heap.size+1,#[D AS nS cS,D AG nG cG],31),(w.heap.size+1+1,#[B C d,B C f,B C ld],46)]∧d8 w.heap.size wr s8 ys∧ys.map Prod.fst=((s.xp.take k).filter (bM s t)).map (sc s t d f ld))) (fun _ k _=>nX-(intOf k).toNat)
 case atStart=>exact⟨0,[],rfl,by omega,⟨⟨HF3.out,dq.nil _ _,rfl⟩⟩⟩
 case round =>
  obtain⟨k,ys,rfl,hk,HR⟩:=hrel;have HFr:Bx (ae w wr [(w.heap.size,#[B C s.num,D AP nP cP,D AB nB cB,D AX nX cX],27),(w.heap.size+1,#[D AS nS cS,D AG nG cG],31),(w.heap.size+1+1,#[B C d,B C f,B C ld],46)]):=⟨HR.out.1⟩
  have HO:Bx (d8 w.heap.size wr _ ys):=⟨HR.out.2.1⟩
  have HY:Bx (ys.map Prod.fst=((s.xp.take k).filter (bM s t)).map (sc s t d f ld)):=⟨HR.out.2.2⟩
  have hyl:ys.length≤k:=by have h1:=congrArg List.length HY.out;have h2:=xC (bM s t) (s.xp.take k);simp at h1 h2;omega
  obtain⟨Ao,co,hu⟩:=dq.form HO.out;obtain⟨no,hno⟩:=nm ys.length;rw[←hno]at hu hyl;subst hu;have HNO:=zZ hno;clear HR HF3 hno;have z3:=(HFr.out.at_ 0 rfl).c 3 rfl;by_cases hkn:k<nX
  ·obtain⟨bX,oX,_,_,rfl,-⟩:=HX0.out.at_ hkn;obtain⟨xa,xb,xd,HXX,x0,x1,x2⟩:=d7.read HX0.out HFr.out.xt.xt hkn;go_upto_region 9 with (fail)
   obtain⟨gx,hgx⟩:=nm wr.heap.size;obtain⟨w2,hw2⟩:=nm ((wr.alloc (.cells #[B C xa,B C xb,B C xd] 83)):World);have hx2:ab wr w2:=by rw[hw2];exact (zE _).alloc _
   have HF2:Bx (ae w w2 [(w.heap.size,#[B C s.num,D AP nP cP,D AB nB cB,D (some ⟨bX,oX,none⟩) nX cX],27),(w.heap.size+1,#[D AS nS cS,D AG nG cG],31),(w.heap.size+1+1,#[B C d,B C f,B C ld],46),(gx,#[B C xa,B C xb,B C xd],83)]):=⟨by rw[hw2];exact HFr.out.push _ _ hgx.symm⟩
   have HO2:=zZ (HO.out.ext hx2);rw[←hw2,←hgx];clear hw2 hgx hx2 x0 x1 x2 z3 HFr HO;have HMX:=zZ (rK HXX.out);have HFS:=zZ (qL HP.out.1.asc_ HMX.out);simp only at HFS;obtain⟨z0,z1,z2,z3⟩:=(HF2.out.at_ 0 rfl).p4 rfl;have i0':=(HF2.out.at_ 1 rfl).c 0 rfl;have i1':=(HF2.out.at_ 1 rfl).c 1 rfl;obtain⟨x0,x1,x2⟩:=(HF2.out.at_ 3 rfl).p3 rfl;cases hdn:bM s t ⟨xa,xb,xd⟩ with
   |false =>
    have hstb:((bW s t ⟨xa,xb,xd⟩).state != 1)=true:=by have:=lm hdn;simp[this]
    have HTK:=zZ (show (s.xp.take (k+1)).filter (bM s t)=(s.xp.take k).filter (bM s t) by rw[ag HXX.out,yJ,wW (by rw[hdn];simp)];simp);clear hdn;go_wp2_with (go_at_call 34;refine (fx _ _ s t xa xb xd _ (p:=p) (zP hp HF2.out.xt.size) (HS0.out.ext HF2.out.xt) (HT0.out.ext HF2.out.xt) HP.out.1 HP.out.2.1 HMX.out HN.out.1 HN.out.2).mono ?_;rintro e w6 ⟨⟨vp,rfl,hvp⟩,hx6⟩;obtain⟨Ap,cp,rfl⟩:=hvp.form;clear hvp;have HF6:=zZ ((HF2.out.take 3).ext hx6);have HO6:=zZ (HO2.out.ext hx6));go_roundw
    case rel=>exact⟨k+1,ys,by go_num,by omega,⟨⟨HF6.out,HO6.out,by rw[HTK.out];exact HY.out⟩⟩⟩
    case measure=>simp[intOf];omega
   |true =>
    have HDN0:=zZ hdn;have HST:=zZ (iI hdn);have HTK:=zZ (show (s.xp.take (k+1)).filter (bM s t)=(s.xp.take k).filter (bM s t)++[⟨xa,xb,xd⟩] by rw[ag HXX.out,yJ,wX hdn];simp);clear hdn;go_upto_region 10 with (go_at_call 34;refine (fx _ _ s t xa xb xd _ (p:=p) (zP hp HF2.out.xt.size) (HS0.out.ext HF2.out.xt) (HT0.out.ext HF2.out.xt) HP.out.1 HP.out.2.1 HMX.out HN.out.1 HN.out.2).mono ?_;rintro e w6 ⟨⟨vp,rfl,hvp⟩,hx6⟩;obtain⟨Ap,cp,rfl⟩:=hvp.form;clear hvp;rw[HST.out])
    have HF6:=zZ (HF2.out.ext hx6);have HO6:=zZ (HO2.out.ext hx6);have hxb:=fw HP.out.1 HMX.out;simp only at hxb;obtain⟨xb1,xb2,xb3,xb4,xb5,xb6⟩:=hxb;obtain⟨pq,bk,hpq,hbk,hbb,-,-,-⟩:=gQ HP.out.1 xb3 xb4;have hbn:=kJ hbb;have hnp:fA s xd=bk.length:=by unfold fA;rw[hbk];rfl
    have hbks:=HP.out.1.bks;obtain⟨r,rfl⟩:=zG xb3;rw[yR]at hpq hbk;have hrB:r<nB:=by have:=HLB.out;omega
    obtain⟨bB,oB,_,_,rfl,-⟩:=HB0.out.at_ hrB;obtain⟨Ab,nb,cb,b0,-,HNB⟩:=dQ HB0.out hbk (zE w).xt;have hnb:nb≤12:=by have:=HNB.out;omega
    have HNP:=zZ (show fA s (r:Int)=nb by rw[hnp,HNB.out]);have HDN:=HDN0;clear hpq hbk hbb hbn hnp hbks hx6 HF2 HO2 z0 z1 z2 z3 i0' i1' x0 x1 x2 HDN0;obtain⟨z0,z1,z2,z3⟩:=(HF6.out.at_ 0 rfl).p4 rfl;obtain⟨x0,x1,x2⟩:=(HF6.out.at_ 3 rfl).p3 rfl;have i0':=(HF6.out.at_ 1 rfl).c 0 rfl;have i1':=(HF6.out.at_ 1 rfl).c 1 rfl;obtain⟨h0,h1,h2⟩:=(HF6.out.at_ 2 rfl).p3 rfl;have HFQ:=HF6;go_upto_region 11 with (go_at_call 39;refine (km _ _ s t d f ld xa xb (r:Int) _ (p:=p) (zP hp HFQ.out.xt.size) (HS0.out.ext HFQ.out.xt) (HT0.out.ext HFQ.out.xt) HBEL.out HFS.out HDN.out HVL.out HN.out.1 HN.out.2).mono ?_;rintro e w7 ⟨⟨va,rfl,hva⟩,hx7⟩;obtain⟨A2,c2,rfl⟩:=hva.form)
    have HF7:=bx (HF6.out.ext hx7);have HO7:=zZ (HO6.out.ext hx7);have HA7:=zZ (hva.base_ HF6.out.xt.size);obtain⟨n2,hn2⟩:=nm ((fC s t d f ld ⟨xa,xb,(r:Int)⟩).length);rw[←hn2]at HA7;rw[←hn2];clear hva hx7 hn2 HF6 HO6 HFQ z0 z1 z2 z3 i0' i1' x0 x1 x2 h0 h1 h2;have z0:=(HF7.out.at_ 0 rfl).c 0 rfl;obtain⟨x0,x1,x2⟩:=(HF7.out.at_ 3 rfl).p3 rfl;go_upto_region 14 with (fail)
    obtain⟨gs,hgs⟩:=nm w7.heap.size;obtain⟨w8,hw8⟩:=nm ((w7.alloc (.cells #[B C (s.num*10000+xa),B C s.num,B C xa,B C xb,B C (r:Int),D none 0 0,D A2 n2 c2] 54)):World);have HF8:Bx (ae w w8 [(w.heap.size,#[B C s.num,D AP nP cP,D (some ⟨bB,oB,none⟩) nB cB,D (some ⟨bX,oX,none⟩) nX cX],27),(w.heap.size+1,#[D AS nS cS,D AG nG cG],31),(w.heap.size+1+1,#[B C d,B C f,B C ld],46),(gx,#[B C xa,B C xb,B C (r:Int)],83),(gs,#[B C (s.num*10000+xa),B C s.num,B C xa,B C xb,B C (r:Int),D none 0 0,D A2 n2 c2],54)]):=⟨by rw[hw8];exact HF7.out.push _ _ hgs.symm⟩
    have HKO:Bx (∀wx,XT gs w8 wx→d8 w.heap.size wx (D Ao no co) ys):=⟨fun wx hx=>HO7.out.keep (w8:=w8) (gs:=gs) (by omega) (by rw[hw8];exact (zE _).alloc _) hx⟩
    have HKA:Bx (∀wx,XT gs w8 wx→av wx w.heap.size (D A2 n2 c2) (fC s t d f ld ⟨xa,xb,(r:Int)⟩)):=⟨fun wx hx=>HA7.out.keep (w8:=w8) (gs:=gs) (by omega) (by rw[hw8];exact (zE _).alloc _) hx⟩
    have HW8:=bx (HF8.out.xt.size);rw[←hw8,←hgs];clear hw8 hgs HF7 HO7 HA7 z0 x0 x1 x2;have hb0:=b0;have s2:=(HF8.out.at_ 0 rfl).c 2 rfl;have x2:=(HF8.out.at_ 3 rfl).c 2 rfl;replace b0:=HF8.out.xt.cell b0;go_wp2_with fail;clear b0 s2 x2;obtain⟨wo,rfl⟩:=nm (w8:World);go_loopw [72] (fun s72 wr=>∃(m:Nat) (v5:Value),s72=B C m∧m≤nb∧Bx (ae w wr [(w.heap.size,#[B C s.num,D AP nP cP,D (some ⟨bB,oB,none⟩) nB cB,D (some ⟨bX,oX,none⟩) nX cX],27),(w.heap.size+1,#[D AS nS cS,D AG nG cG],31),(w.heap.size+1+1,#[B C d,B C f,B C ld],46),(gx,#[B C xa,B C xb,B C (r:Int)],83),(gs,#[B C (s.num*10000+xa),B C s.num,B C xa,B C xb,B C (r:Int),v5,D A2 n2 c2],54)]∧XT gs wo wr∧av wr wo.heap.size v5 (ee t xa m))) (fun m _=>nb-(intOf m).toNat)
    case atStart=>exact⟨0,D none 0 0,rfl,by omega,⟨⟨HF8.out,XT.refl _ _,by simpa[ee] using av.nil wo wo.heap.size⟩⟩⟩
    case round =>
     obtain⟨m,v5,rfl,hm,HR⟩:=hrel;obtain⟨A5,c5,hu⟩:=HR.out.2.2.form;rw[fY]at hu;subst hu;have HF10:Bx (ae w wr [(w.heap.size,#[B C s.num,D AP nP cP,D (some ⟨bB,oB,none⟩) nB cB,D (some ⟨bX,oX,none⟩) nX cX],27),(w.heap.size+1,#[D AS nS cS,D AG nG cG],31),(w.heap.size+1+1,#[B C d,B C f,B C ld],46),(gx,#[B C xa,B C xb,B C (r:Int)],83),(gs,#[B C (s.num*10000+xa),B C s.num,B C xa,B C xb,B C (r:Int),D A5 m c5,D A2 n2 c2],54)]):=⟨HR.out.1⟩
     have HX10:Bx (XT gs wo wr):=⟨HR.out.2.1⟩
     have HI10:Bx (av wr wo.heap.size (D A5 m c5) (ee t xa m)):=⟨HR.out.2.2⟩
     clear HR HF8;by_cases hmn:m<nb
     ·have i0':=(HF10.out.at_ 1 rfl).c 0 rfl;have i1':=(HF10.out.at_ 1 rfl).c 1 rfl;have x0:=(HF10.out.at_ 3 rfl).c 0 rfl;go_upto_region 18 with (go_at_call 40;refine (eH _ t xa (m:Int) _ (p:=p) (HT0.out.ext HF10.out.xt) HP.out.2.1 (by have:=HN.out.2;omega)).mono ?_;rintro e w11 ⟨yc,yg,yt,ys',yq,ych,yA,yn,ycc,rfl,hyd,-,hyw,hx11⟩)
      have HCT:=zZ (show ee t xa (m+1)=ee t xa m++[yt] by rw[oz,Bv hyd]);have hyt:aC yt:=hyw.2.2.1;obtain⟨gp,hgp⟩:=nm w11.heap.size;obtain⟨w12,hw12⟩:=nm ((w11.alloc (.cells #[B C yc,B C yg,B C yt,D yA yn ycc,B C ys',B C yq] 77)):World);have hx12:ab wr w12:=by rw[hw12];exact hx11.alloc _
      have HB12:Bx (Bk w12 gp #[B C yc,B C yg,B C yt,D yA yn ycc,B C ys',B C yq] 77):=⟨by rw[hw12,hgp];exact Bk.new _ _ _⟩
      have HF12:=bx (HF10.out.ext hx12);have HX12:=bx (HX10.out.ext hx12);have HI12:=bx (HI10.out.ext hx12);have HW12:Bx (wo.heap.size≤w12.heap.size):=⟨HX12.out.size⟩
      rw[←hw12,←hgp];clear hw12 hgp hx11 hx12 hyd hyw HF10 HX10 HI10 i0' i1' x0;obtain⟨o0,o1,o2,o3,o4,o5,o6⟩:=(HF12.out.at_ 4 rfl).p7 rfl;have g0:=(HF12.out.at_ 4 rfl).froz;have g1:=g0;have g2:=g0;have g3:=g0;have g4:=g0;have g5:=g0;have g6:=g0;have y2:=HB12.out.c 2 rfl;go_wp2_with (at_builtin;refine al _ rfl (.tmp 84) (.tmp 87) 22 rfl wo.heap.size 3 i0 _ 8 underlying22 hi0 hz0 hz1 hz2 rfl (D A5 m c5) _ _ rfl (ac HI12.out.1 ((zE _).alloc _)) _ _ rfl (by simp;rfl) rfl (by rw[fY];omega) (by omega) (by have:=HW12.out;simp;omega) ?_;intro v13 w13 hown13 hg13;obtain⟨A13,c13,hv13⟩:=pY hown13;obtain⟨n13,hn13⟩:=nm ((ee t xa m).length+1);rw[←hn13]at hv13 hown13;subst hv13;have HN13:=zZ hn13;clear hn13;have HF13:=zZ ((HF12.out.ext ((zE _).alloc _)).grownT (ac HI12.out.1 ((zE _).alloc _)) hg13 HW8.out rfl);have HX13:=zZ ((HX12.out.alloc _).grown hg13 (ar HI12.out.1));have HO13:=zZ hown13;clear hown13 hg13 o0 o1 o2 o3 o4 o5 o6 g0 g1 g2 g3 g4 g5 g6;have o0:=(HF13.out.at_ 4 rfl).c 0 rfl;have o1:=(HF13.out.at_ 4 rfl).c 1 rfl;have o2:=(HF13.out.at_ 4 rfl).c 2 rfl;have o3:=(HF13.out.at_ 4 rfl).c 3 rfl;have o4:=(HF13.out.at_ 4 rfl).c 4 rfl;have o5:=(HF13.out.at_ 4 rfl).c 5 rfl;have o6:=(HF13.out.at_ 4 rfl).c 6 rfl;have g5:=(HF13.out.at_ 4 rfl).froz 5);have HI13:Bx (av w13 wo.heap.size (D A13 n13 c13) (ee t xa (m+1))):=⟨by
       rw[HCT.out];have h5:=HO13.out;rw[HN13.out]at h5⊢;refine⟨by simpa using h5,fun z hz=>?_,by simp[fY];omega⟩;rcases zC.1 hz with hz|hz
       ·exact HI12.out.2.1 z hz
       ·obtain rfl:z=yt:=by simpa using hz
        exact hyt⟩
      have hF14:=HF13.out.set 4 rfl 5 (D A13 n13 c13);have hV14:=HI13.out.far (HF13.out.at_ 4 rfl) (by decide) 5 (D A13 n13 c13);have hX14:=HX13.out.setCell (a:=⟨gs,5,none⟩) rfl (D A13 n13 c13);go_roundw
      case rel=>exact⟨m+1,D A13 n13 c13,by go_num,by omega,⟨⟨hF14,hX14,hV14⟩⟩⟩
      case measure=>simp[intOf];omega
     ·obtain rfl:m=nb:=by omega
      have HF12:=HF10;have HI12:=HI10;have HO12:=zZ (HKO.out _ HX10.out);have HA12:=zZ (HKA.out _ HX10.out);clear HF10 HX10 HI10;obtain⟨o0,o1,o2,o3,o4,o5,o6⟩:=(HF12.out.at_ 4 rfl).p7 rfl;have HOW:=zZ (show World.ownsRow _ w.heap.size 54 7 (D Ao no co) no (ys.map ws).flatten from by have h:=HO12.out.own.own;rw[←HNO.out]at h;exact h);go_wp2_with (at_builtin;go_loud (refine aH _ rfl (.tmp 91) (.tmp 93) 48 rfl w.heap.size 54 iC _ 7 88 underlying48 hiC hC0 hC1 hC2 rfl (by omega) (D Ao no co) no (ys.map ws).flatten rfl (ac HOW.out ((zE _).alloc _)) _ #[B C (s.num*10000+xa),B C s.num,B C xa,B C xb,B C (r:Int),D A5 m c5,D A2 n2 c2] _ rfl (heap_alloc_new _ _) rfl (by simp[Value.oneCell']) (by omega) (by omega) (by have:=HF12.out.xt.size;simp;omega) ?_;intro v14 w14 hown14 hg14;have H14:Bx (d8 w.heap.size w14 v14 (ys++[(sc s t d f ld ⟨xa,xb,(r:Int)⟩,D A5 m c5,D A2 n2 c2)])∧ae w w14 [(w.heap.size,#[B C s.num,D AP nP cP,D (some ⟨bB,oB,none⟩) nB cB,D (some ⟨bX,oX,none⟩) nX cX],27),(w.heap.size+1,#[D AS nS cS,D AG nG cG],31),(w.heap.size+1+1,#[B C d,B C f,B C ld],46)]):=⟨⟨dq.push (f:=ws) (HO12.out.ext ((zE _).alloc _)) (by have h:=hown14;rw[HNO.out]at h;exact h) (fun y hy=>⟨av.apart hy.1 (ac HOW.out ((zE _).alloc _)) (by decide) hg14,av.apart hy.2 (ac HOW.out ((zE _).alloc _)) (by decide) hg14⟩) ⟨av.apart (show av _ w.heap.size (D A5 m c5) (ee t xa (fA s (r:Int))) from by rw[HNP.out];exact (HI12.out.base_ HW8.out).ext ((zE _).alloc _)) (ac HOW.out ((zE _).alloc _)) (by decide) hg14,av.apart (HA12.out.ext ((zE _).alloc _)) (ac HOW.out ((zE _).alloc _)) (by decide) hg14⟩,((HF12.out.take 3).ext ((zE _).alloc _)).grownT (ac HOW.out ((zE _).alloc _)) hg14 (zX _) rfl⟩⟩;clear hown14 hg14));go_roundw
      case rel=>exact⟨k+1,_,by go_num,by omega,⟨⟨H14.out.2,H14.out.1,by rw[HTK.out];simp[HY.out]⟩⟩⟩
      case measure=>simp[intOf];omega
  ·obtain rfl:k=nX:=by omega
   have HE:=zZ (show ((s.xp.take k).filter (bM s t)).map (sc s t d f ld)=Do s t d f ld by rw[aD (by have:=HLX.out;omega)];rfl);go_wp2_with fail;refine bodyPost_ret (v:=.tuple #[D Ao no co,B C 0]) (by simp[results,results15,go_sem]) rfl ⟨⟨D Ao no co,ys,rfl,HO.out,by rw[HY.out,HE.out,HL2.out]⟩,HFr.out.xt⟩
def Ec(q:Pg):List Value:=q.cells (D none 0 0)
theorem lM{w:World}{base g e size:Nat}{xs:List Value}(hb:Bk w g xs.toArray e)(hl:xs.length=n*size)(hg:base≤g)(hn:n≤1000):w.ownsRow base e size (D (some ⟨g,0,none⟩) n n) n xs :=
 ⟨hl,.inr ⟨g,n,xs.toArray,rfl,hg,hb,zX _,by unfold maxLen;omega,by simp[hl],by rw[←hl];simp⟩⟩
structure IB (wx:World) (b c:Nat):Prop where
 bc:b+2≤c
 p0:Bk wx b ij.cells.toArray 86
 p2:Bk wx c #[B C 0,B C 0,D (some ⟨b,0,none⟩) 1 1] 89
 p3:Bk wx (c+1) #[B C 0] 3
 p4:Bk wx (c+1+1) #[D none 0 0,D (some ⟨c+1,0,none⟩) 1 1,D none 0 0,D none 0 0] 22
 p5:Bk wx (c+1+1+1) #[D (some ⟨c+1+1,0,none⟩) 4 4] 92
 p6:Bk wx (c+1+1+1+1) #[B C 5,B C 1,B C 0] 83
theorem IB.isSit{wx:World}{b c:Nat}(h:IB wx b c):aN (b+1) wx (.agg #[B C 0,D (some ⟨c,0,none⟩) 1 1,D (some ⟨c+1+1+1,0,none⟩) 1 1,D (some ⟨c+1+1+1+1,0,none⟩) 1 1]) qz:=by
 have hbc:=h.bc;have hI0:ao (b+1) wx (D (some ⟨c+1,0,none⟩) 1 1) [0]:=ao.of_own (e:=3) (base:=b+2) (lM (xs:=[B C 0]) h.p3 rfl (by omega) (by omega)) (by omega) (by decide) (by simp);have hP:kr (b+1) wx (D (some ⟨b,0,none⟩) 1 1) [ij]:=by
  refine⟨some ⟨b,0,none⟩,1,rfl,zX _,by omega,fun k x hx=>?_⟩;obtain⟨rfl,rfl⟩:k=0∧x=ij:=by have h1:=(zY.1 hx).1;simp at h1;subst h1;simp at hx;exact⟨rfl,hx.symm⟩
  refine⟨b,0,ij.cells,rfl,by omega,rfl,fun j u hu=>?_,rfl,?_⟩
  ·rw[show 0+0*6+j=j by omega];exact h.p0.cell (by simpa using hu)
  ·exact⟨by decide,by decide⟩
 have hB:kL (b+1) wx (D (some ⟨c+1+1,0,none⟩) 4 4) [[],[0],[],[]]:=by
  refine bg.of_own (e:=22) (base:=b+2) [[D none 0 0],[D (some ⟨c+1,0,none⟩) 1 1],[D none 0 0],[D none 0 0]] (fun cs hcs=>?_) (by decide) rfl (lM (xs:=[D none 0 0,D (some ⟨c+1,0,none⟩) 1 1,D none 0 0,D none 0 0]) h.p4 rfl (by omega) (by omega)) (by omega) fun k cs x hc hx=>?_
  ·simp only[yG,wK,or_false]at hcs;rcases hcs with rfl|rfl|rfl|rfl<;>rfl
  ·rcases (show k=0∨k=1∨k=2∨k=3 by have:=(zY.1 hx).1;simp at this;omega) with rfl|rfl|rfl|rfl<;>(simp at hc hx;subst hc;subst hx)
   ·exact⟨_,rfl,ao.nil _ _⟩
   ·exact⟨_,rfl,hI0⟩
   ·exact⟨_,rfl,ao.nil _ _⟩
   ·exact⟨_,rfl,ao.nil _ _⟩
 refine⟨_,_,_,rfl,?_,?_,?_,by decide,by decide⟩
 ·refine bg.of_own (e:=89) (base:=b+2) [[B C 0,B C 0,D (some ⟨b,0,none⟩) 1 1]] (fun cs hcs=>by simp at hcs;subst hcs;rfl) (by decide) rfl (lM (xs:=[B C 0,B C 0,D (some ⟨b,0,none⟩) 1 1]) h.p2 rfl (by omega) (by omega)) (by omega) fun k cs x hc hx=>?_;obtain rfl:k=0:=by have:=(zY.1 hc).1;simp at this;exact this
  simp[qz]at hc hx;subst hc;subst hx;exact⟨_,rfl,hP,⟨by decide,by decide⟩,⟨by decide,by decide⟩⟩
 ·refine bg.of_own (e:=92) (base:=b+2) [[D (some ⟨c+1+1,0,none⟩) 4 4]] (fun cs hcs=>by simp at hcs;subst hcs;rfl) (by decide) rfl (lM (xs:=[D (some ⟨c+1+1,0,none⟩) 4 4]) h.p5 rfl (by omega) (by omega)) (by omega) fun k cs x hc hx=>?_;obtain rfl:k=0:=by have:=(zY.1 hc).1;simp at this;exact this
  simp[qz]at hc hx;subst hc;subst hx;exact⟨_,rfl,hB⟩
 ·refine bg.of_own (e:=83) (base:=b+2) [[B C 5,B C 1,B C 0]] (fun cs hcs=>by simp at hcs;subst hcs;rfl) (by decide) rfl (lM (xs:=[B C 5,B C 1,B C 0]) h.p6 rfl (by omega) (by omega)) (by omega) fun k cs x hc hx=>?_;obtain rfl:k=0:=by have:=(zY.1 hc).1;simp at this;exact this
  simp[qz]at hc hx;subst hc;subst hx;exact⟨rfl,by decide,by decide,by decide⟩
structure D8 (w:World) (base:Nat) (vS vG:Value) (k:Nat):Prop where
 s:aL base 75 7 aY.cells w vS (ib k).sts
 g:aL base 77 6 Ec w vG (ib k).pgs
theorem D8.isItk{w:World}{base:Nat}{vS vG:Value}(h:D8 w base vS vG k)(hp:p<base)(hk:k≤4):bN p w (.agg #[vS,vG]) (ib k):=by
 refine⟨_,_,rfl,aL.isS h.s hp (by decide) (fun x _=>rfl) (fun x hx=>?_),aL.isS h.g hp (by decide) (fun x _=>rfl) (fun x hx=>?_)⟩
 ·obtain⟨j,hj,rfl⟩:=zJ.1 hx;have:=zB.1 hj;refine⟨rfl,?_⟩;unfold aY.wf jd.wf cU.wf aC;simp only[ql];and_intros<;>omega
 ·obtain⟨j,hj,rfl⟩:=zJ.1 hx;have:=zB.1 hj;refine⟨_,rfl,ao.nil _ _,?_⟩;unfold Pg.wf jd.wf aC;simp only[Cw,List.length_nil];and_intros<;>omega
theorem D8.ext{w w':World}{base k:Nat}{vS vG:Value}(h:D8 w base vS vG k)(hx:ab w w'):D8 w' base vS vG k:=⟨h.s.ext hx,h.g.ext hx⟩
end Go.Proofs.YtjgfgdcaocbfhaaGreat

