import Derived.Test.YtjgfgdcaocbfhaaGreatH39
import Derived.Test.YtjgfgdcaocbfhaaGreatRScB
set_option linter.all false
set_option maxRecDepth 100000
set_option maxHeartbeats 0
namespace Go.Proofs.YtjgfgdcaocbfhaaGreat
open Go.RowKit _root_.Go.Proofs.Tryz
variable {p:Nat}
def hZ(fs:List eh)(cs:List Int)(i:Int)(k:Nat):List Int:=((fs.zip cs).take k).filterMap fun x=>if x.1.part=i then some x.2 else none
section
variable {fs:List eh} {cs:List Int} {i:Int} {k:Nat} {q:eh} {x:Int}
theorem Dx(hq:fs[k]?=some q)(hx:cs[k]?=some x):(fs.zip cs)[k]?=some (q,x):=by rw[List.getElem?_zip_eq_some];exact⟨hq,hx⟩
theorem n8(hq:fs[k]?=some q)(hx:cs[k]?=some x)(h:q.part=i):hZ fs cs i (k+1)=hZ fs cs i k++[x]:=by unfold hZ;rw[ag (Dx hq hx)];simp[h]
theorem qO(hq:fs[k]?=some q)(hx:cs[k]?=some x)(h:¬q.part=i):hZ fs cs i (k+1)=hZ fs cs i k:=by unfold hZ;rw[ag (Dx hq hx)];simp[h]
theorem vU(h:fs.length≤k):hZ fs cs i k=aO fs cs i:=by unfold hZ aO;rw[xM (by simp;omega)]
theorem yo(h:x∈aO fs cs i):x∈cs:=by
 unfold aO at h;obtain⟨y,hy,he⟩:=wA.1 h;split at he
 ·injection he with he;subst he;exact (List.of_mem_zip hy).2
 ·cases he
theorem Ez{J:List Int→Int}{n j:Nat}(hj:j<n)(h:aO fs cs (j:Int)≠[]):(iT J n fs cs)[j]?=some (J (aO fs cs (j:Int))):=by unfold iT;rw[zL,xH hj];simp[h]
theorem FP{J:List Int→Int}{n j:Nat}(hj:j<n)(h:aO fs cs (j:Int)=[]):(iT J n fs cs)[j]?=some (-1):=by unfold iT;rw[zL,xH hj];simp[h]
end
theorem CD(code var d f ld page:Int)(v vb vc:Value)(ps:List ai)(pgs:List (List Int))(cs:List Int)(w:World)(hp:p<w.heap.size)(h:kr p w v ps)(hb:kL p w vb pgs)(hc:ao p w vc cs)(hpg:aC page) :
  Calls prog 81 #[.agg #[.int .i64 code,.int .i64 var,v],.agg #[vb],.agg #[.int .i64 d,.int .i64 f,.int .i64 ld],.int .i64 page,vc] w (dO p w (bQ code var ps pgs d f ld page cs) (gh code var ps pgs d f ld page cs)):=by
 obtain⟨A,n,c,rfl,hnc,hcc,hnn,HL⟩:=h.open_;obtain⟨Ab,m,cb,rfl,hmc,hcb,hmm,HM⟩:=hb.open_;obtain⟨Ac,nc,ccc,rfl,hncc,hccc,hnnc,HC⟩:=hc.open_;have HE:Hid (ab w (((w.alloc (.cells #[.int .i64 code,.int .i64 var,.slice A n c] 89)).alloc (.cells #[.slice Ab m cb] 92)).alloc (.cells #[.int .i64 d,.int .i64 f,.int .i64 ld] 46))):=(((zE _).alloc _).alloc _).alloc _;have HB:=zZ (pX.start w code var d f ld (.slice A n c) (.slice Ab m cb) 89 92 46);have HQ:=zZ (h.ext (aI.stab p) HE.out);have HP:=zZ (hb.ext (RI.stab p) HE.out);have HI:=zZ (hc.ext HE.out);have hpw:=zP hp HE.out.size;have HPG:=zZ hpg;clear h hb hc hpg;go_enter func81,ntmps81
 go_upto_region 1 with (fail)
 generalize hW:((w.alloc (.cells #[.int .i64 code,.int .i64 var,.slice A n c] 89)).alloc (.cells #[.slice Ab m cb] 92)).alloc (.cells #[.int .i64 d,.int .i64 f,.int .i64 ld] 46)=W at *
 clear hW;go_cut [31] (fun s34 wx=>∃b:Bool,s34=.bool b∧Hid ((b=false↔dp d f ld=true∧eU code var ps pgs=true)∧ab W wx))
 case first =>
  obtain⟨⟨b0,b1,b2⟩,b3,b4,b5,b6⟩:=HB.out;go_wp2_with fail;refine (dG _ _ _ ps _ HQ.out).mono ?_;rintro e w1 ⟨rfl,hx1⟩;cases hv:d9 code var ps with
  |false =>
   have hnb:eU code var ps pgs=false:=cN fun x=>by have:=x.1;rw[hv]at this;cases this
   replace hv:=zZ hv;replace hnb:=zZ hnb;go_wp2_with fail;go_meet
   exact⟨true,rfl,by simp[hnb.out],hx1⟩
  |true =>
   replace hv:=zZ hv;replace HB:=zZ (HB.out.ext hx1);have HE1:=zZ hx1;clear b0 b1 b2 b3 b4 b5 b6 hx1;obtain⟨⟨b0,b1,b2⟩,b3,b4,b5,b6⟩:=HB.out;go_wp2_with fail;refine (ey _ _ _ _).mono ?_;rintro e w2 ⟨rfl,hx2⟩;replace HE1:=zZ (HE1.out.trans hx2);replace HB:=zZ (HB.out.ext hx2);clear b0 b1 b2 b3 b4 b5 b6 hx2;cases ht:dp d f ld with
   |false =>
    replace ht:=zZ ht;go_wp2_with fail;go_meet
    exact⟨true,rfl,by simp[ht.out],HE1.out⟩
   |true =>
    replace ht:=zZ ht;obtain⟨⟨b0,b1,b2⟩,b3,b4,b5,b6⟩:=HB.out;go_wp2_with fail;refine (dx _ _ _ _ ps pgs _ (HQ.out.ext (aI.stab p) HE1.out) (HP.out.ext (RI.stab p) HE1.out)).mono ?_;rintro e w3 ⟨rfl,hx3⟩;go_wp2_with fail;go_meet
    exact⟨!eU code var ps pgs,rfl,by simp[ht.out],HE1.out.trans hx3⟩
 case rest =>
 obtain⟨b,rfl,HR⟩:=hcut;have HT:=zZ HR.out.1;replace HB:=zZ (HB.out.ext HR.out.2);replace HQ:=zZ ((HQ.out.ext (aI.stab p) HR.out.2));replace HP:=zZ ((HP.out.ext (RI.stab p) HR.out.2));replace HI:=zZ (HI.out.ext HR.out.2);replace HE:=zZ (HE.out.trans HR.out.2);replace hpw:=zP hpw HR.out.2.size;clear HR;cases b;case true =>have H1:=zZ (El (code:=code) (var:=var) (ps:=ps) (pgs:=pgs) (d:=d) (f:=f) (ld:=ld) (page:=page) (cs:=cs) (fun x=>by have:=HT.out.2 x;cases this));go_wp2_with fail;exact bodyPost_ret (v:=.tuple #[.slice none 0 0,.int .i64 1]) (by simp[results,results81,go_sem]) rfl (dO.mk0 H1.out HE.out)
 have HV:=zZ (HT.out.1 rfl);clear HT;obtain⟨⟨b0,b1,b2⟩,b3,b4,b5,b6⟩:=HB.out;by_cases hin:0≤page∧page<m;case neg =>
  have H4:=zZ (Dl (page:=page) (cs:=cs) HV.out (by rw[HM.out];exact hin));have hin':page<0∨(m:Int)≤page:=by omega
  clear hin;by_cases hneg:page<0
  ·clear hin';go_wp2_with fail;exact bodyPost_ret (v:=.tuple #[.slice none 0 0,.int .i64 4]) (by simp[results,results81,go_sem]) rfl (dO.mk0 H4.out HE.out)
  ·have hge:(m:Int)≤page:=by omega
   clear hin';go_wp2_with fail;exact bodyPost_ret (v:=.tuple #[.slice none 0 0,.int .i64 4]) (by simp[results,results81,go_sem]) rfl (dO.mk0 H4.out HE.out)
 have HIN:Hid (0≤page∧page<pgs.length):=by show _∧_;rw[HM.out];exact hin
 obtain⟨hi0,hi1⟩:=hin;go_wp2_with fail;refine (gX _ _ _ _ _ ps pgs _ hpw HQ.out HP.out HPG.out).mono ?_;rintro e w4 ⟨vf,rfl,hF,hx4⟩;obtain⟨Af,nf,cf,rfl,hncf,hcf,hnnf,HLF⟩:=hF.open_;replace hF:=zZ hF;replace HB:=zZ (HB.out.ext hx4);replace HQ:=zZ ((HQ.out.ext (aI.stab p) hx4));replace HI:=zZ (HI.out.ext hx4);replace HE:=zZ (HE.out.trans hx4);replace hpw:=zP hpw hx4.size;clear b0 b1 b2 b3 b4 b5 b6 hx4 HP;by_cases hlen:nc=nf;case neg =>
  have H22:=zZ (AJ (cs:=cs) HV.out HIN.out (by rw[HC.out,HLF.out];exact hlen));have hne:((nc:Int)!=nf)=true:=by simp;omega
  clear hlen;go_wp2_with fail;exact bodyPost_ret (v:=.tuple #[.slice none 0 0,.int .i64 22]) (by simp[results,results81,go_sem]) rfl (dO.mk0 H22.out HE.out)
 subst hlen;have HLN:Hid (cs.length=(aA code var ps pgs page).length):=by show _=_;rw[HC.out,HLF.out]
 have hnn0:((nc:Int)!=nc)=false:=by simp
 go_wp2_with fail;refine (lL _ cs _ HI.out).mono ?_;rintro e w' ⟨rfl,rfl⟩;cases hall:cs.all bd with
 |false =>
  have H2:=zZ (DN HV.out HIN.out HLN.out hall);replace hall:=zZ hall;go_wp2_with fail;exact bodyPost_ret (v:=.tuple #[.slice none 0 0,.int .i64 2]) (by simp[results,results81,go_sem]) rfl (dO.mk0 H2.out HE.out)
 |true =>
 have H0:=zZ (yx HV.out HIN.out HLN.out hall);replace hall:=zZ hall;have hps:=(iV (jg HV.out.2).1)
 have hn24:n≤24:=by have:=hps.2.2.2.2.2.1;have:=HL.out;omega
 clear hps;obtain⟨i0,hi0',hz0,hz1,hz2⟩:=info_parts Tryz.infoI;have hnc120:nc≤1000:=by
  have hnn:0≤page∧page<pgs.length:=HIN.out;obtain⟨j,hj⟩:=zG hi0;obtain⟨pg,hpgj⟩:∃pg,pgs[j]?=some pg:=⟨_,zW (by have:=hnn.2;omega)⟩
  have h1:=HLF.out;rw[hj,dE HV.out.2 hpgj,mJ ps pg (mB HV.out.2 hpgj).2]at h1;have h2:=qh _ (mB HV.out.2 hpgj).1;have h3:(gf ps pg).length≤pg.length:=vZ _ _;have h4:=(eA HV.out.2 hpgj).1;omega
 generalize hfs:aA code var ps pgs page=fs at *
 have HFS:=zZ hfs;clear hfs;go_wp2_with fail;go_loopw [13,14] (fun s13 s14 wr=>∃(i:Nat),s14=.int .i64 i∧i≤n∧Hid (wr.ownsRow w4.heap.size 3 1 s13 i (((iT (bH d f ld) n fs cs).take i).map (Value.int .i64))∧ab w4 wr)) (fun _ i _=>n-(intOf i).toNat)
 case atStart=>exact⟨0,rfl,by omega,yW _ _ _ _,zE _⟩
 case round =>
  obtain⟨i,rfl,hi,HR⟩:=hrel;obtain⟨⟨b0,b1,b2⟩,b3,b4,b5,b6⟩:=HB.out.ext HR.out.2;by_cases hin:i<n
  ·obtain⟨q1,q2⟩:=HR.out;replace q1:=zZ q1;replace q2:=zZ q2;clear HR;obtain⟨wo,rfl⟩:=nm (wr:World);have hso:w4.heap.size≤wo.heap.size:=q2.out.size;go_wp2_with fail;go_loopw [15,16] (fun s15 s16 wr=>∃(k:Nat) (vals:List Int),s16=.int .i64 k∧k≤nc∧vals.length≤k∧Hid (vals=hZ fs cs i k∧wr.ownsRow wo.heap.size 3 1 s15 vals.length (vals.map (Value.int .i64))∧ab wo wr)) (fun _ i _=>nc-(intOf i).toNat)
   case atStart=>exact⟨0,[],rfl,by omega,by simp,by simp[hZ],yW _ _ _ _,zE _⟩
   case round =>
    obtain⟨k,vals,rfl,hk,hvl,HS⟩:=hrel;by_cases hkn:k<nc
    ·obtain⟨bf,of,cs1,z1,rfl,_⟩:=hF.out.at_ hkn;obtain⟨bc,oc,z2,rfl,_⟩:=HI.out.at_ hkn;obtain⟨q,cq,_,HQ,hqi,_⟩:=((hF.out.ext (rB.stab p) q2.out).ext (rB.stab p) HS.out.2.2).fld hkn;obtain⟨x,hcx,HX,hx1,hx2⟩:=((HI.out.ext q2.out).ext HS.out.2.2).cell_ hkn;by_cases hqp:q.part=(i:Int)
     ·have hqb:(q.part==(i:Int))=true:=by simp[hqp]
      replace hqp:=zZ hqp;have hso2:=HS.out.2.2.size;go_wp2_with (at_builtin;refine al _ rfl (.tmp 73) (.tmp 78) 22 rfl wo.heap.size 3 i0 _ 8 underlying22 hi0' hz0 hz1 hz2 rfl _ _ _ rfl (HS.out.2.1.alloc _) _ _ rfl (by simp;rfl) rfl (by omega) (by omega) (by simp;omega) ?_;intro v7 w7 hown7 hg7);go_roundw
      case rel=>first|exact⟨k+1,vals++[x],by go_num,by omega,by simp;omega,by rw[n8 HQ.out HX.out hqp.out,HS.out.1],by simpa using hown7,ab.grown (HS.out.2.2.alloc _) hg7 (ar HS.out.2.1)⟩|exact⟨k+1,by omega,by omega,vals++[x],by simp;omega,by rw[n8 HQ.out HX.out hqp.out,HS.out.1],by simpa using hown7,ab.grown (HS.out.2.2.alloc _) hg7 (ar HS.out.2.1)⟩
      case measure=>simp[intOf];omega
     ·have hqb:(q.part==(i:Int))=false:=by simp[hqp]
      replace hqp:=zZ hqp;go_wp2_with fail;go_roundw
      case rel=>first|exact⟨k+1,vals,by go_num,by omega,by omega,by rw[qO HQ.out HX.out hqp.out];exact HS.out.1,HS.out.2⟩|exact⟨k+1,by omega,by omega,vals,by omega,by rw[qO HQ.out HX.out hqp.out];exact HS.out.1,HS.out.2⟩
      case measure=>simp[intOf];omega
    ·obtain rfl:k=nc:=by omega
     have hve:vals=aO fs cs (i:Int):=by rw[HS.out.1];exact vU (by have:=HC.out;have:=HLF.out;omega)
     have hvi:∀x∈vals,aC x:=by intro x hx;rw[hve]at hx;exact HI.out.mem (yo hx)
     have hIv:ao p wr u15 vals:=ao.of_own HS.out.2.1 (by omega) hvi (by omega);have q8:=zZ (ac q1.out HS.out.2.2);have q9:=zZ (q2.out.trans HS.out.2.2);obtain⟨Av,nv,cv,hv15,_,_,_,HLv⟩:=hIv.open_;subst hv15;replace hve:=zZ hve;replace hIv:=zZ hIv;clear HS hvi;obtain⟨⟨b0,b1,b2⟩,b3,b4,b5,b6⟩:=HB.out.ext q9.out;have hs9:=q9.out.size;by_cases hv0:0<nv
     ·have hat:Hid ((iT (bH d f ld) n fs cs)[i]?=some (bH d f ld vals)):=by
       show _=_
       rw[hve.out];refine Ez hin ?_;rw[←hve.out];intro e;have:=HLv.out;rw[e]at this;simp at this;omega
      have hjb:=mh d f ld vals;go_wp2_with fail;refine (wn _ _ _ _ vals _ hIv.out).mono ?_;rintro e x1 ⟨rfl,hx1⟩;generalize hjv:bH d f ld vals=jv at *
      replace q8:=zZ (ac q8.out hx1);replace q9:=zZ (q9.out.trans hx1);have hs10:=hx1.size;clear b0 b1 b2 b3 b4 b5 b6 hx1 hjv;go_wp2_with (at_builtin;refine al _ rfl (.tmp 89) (.tmp 91) 22 rfl w4.heap.size 3 i0 _ 8 underlying22 hi0' hz0 hz1 hz2 rfl _ _ _ rfl (q8.out.alloc _) _ _ rfl (by simp;rfl) rfl (by omega) (by omega) (by simp;omega) ?_;intro v7 w7 hown7 hg7);go_roundw
      case rel=>exact⟨i+1,by go_num,by omega,by rw[ag hat.out];simpa using hown7,ab.grown (q9.out.alloc _) hg7 (ar q8.out)⟩
      case measure=>simp[intOf];omega
     ·have hat:Hid ((iT (bH d f ld) n fs cs)[i]?=some (-1)):=by
       show _=_
       refine FP hin ?_;rw[←hve.out];exact yO (by have:=HLv.out;omega)
      go_wp2_with (at_builtin;refine al _ rfl (.tmp 89) (.tmp 91) 22 rfl w4.heap.size 3 i0 _ 8 underlying22 hi0' hz0 hz1 hz2 rfl _ _ _ rfl (q8.out.alloc _) _ _ rfl (by simp;rfl) rfl (by omega) (by omega) (by simp;omega) ?_;intro v7 w7 hown7 hg7);go_roundw
      case rel=>exact⟨i+1,by go_num,by omega,by rw[ag hat.out];simpa using hown7,ab.grown (q9.out.alloc _) hg7 (ar q8.out)⟩
      case measure=>simp[intOf];omega
  ·obtain rfl:i=n:=by omega
   obtain⟨q1,q2⟩:=HR.out;have hlr:(iT (bH d f ld) i fs cs).length=i:=by simp[iT]
   rw[xM (by omega)]at q1;have hI9:ao p wr u13 (iT (bH d f ld) i fs cs):=ao.of_own q1 hpw (oC _ _ _) (by omega);obtain⟨Av,nv,cv,hv13,_,_,_,HLv⟩:=hI9.open_;subst hv13;replace hI9:=zZ hI9;replace q2:=zZ q2;clear q1 HR;go_wp2_with fail;refine bodyPost_ret (v:=.tuple #[.slice Av nv cv,.int .i64 0]) (by simp[results,results81,go_sem]) rfl ⟨_,by rw[←H0.out.2],by rw[←H0.out.1,HL.out];exact hI9.out,HE.out.trans q2.out⟩
theorem lf(v vi:Value)(s:aZ)(t:en)(d f ld xa xb xd:Int)(w:World)(hp:p<w.heap.size)(hs:aN p w v s)(ht:bN p w vi t)(hB0:vk s t)(hx:aJ s.xp xa=some ⟨xa,xb,xd⟩)(hd:bM s t ⟨xa,xb,xd⟩=true)(hv:dp d f ld=true)(hn1:t.sts.length≤1000)(hn2:t.pgs.length≤1000) :
  Calls prog 43 #[v,vi,.agg #[.int .i64 d,.int .i64 f,.int .i64 ld],.agg #[.int .i64 xa,.int .i64 xb,.int .i64 xd]] w fun e w'=>(∃vr,e=.returned vr∧av w' w.heap.size vr (fC s t d f ld ⟨xa,xb,xd⟩))∧ab w w':=by
 obtain⟨i0,hi0,hz0,hz1,hz2⟩:=info_parts Tryz.infoI;have HS0:=zZ hs;have HT0:=zZ ht;obtain⟨vP,vB,vX,rfl,hP,hB,hX,hnum⟩:=hs;obtain⟨AP,nP,cP,rfl,hnP,hcP,hmP,HLP⟩:=hP.open_;obtain⟨AB,nB,cB,rfl,hnB,hcB,hmB,HLB⟩:=hB.open_;obtain⟨AX,nX,cX,rfl,-⟩:=hX.open_;obtain⟨vS,vG,rfl,hS,hG⟩:=ht;obtain⟨AS,nS,cS,rfl,-⟩:=hS.open_;obtain⟨AG,nG,cG,rfl,-⟩:=hG.open_;have hok:=eV.1 hB0.chk;have hxb:=fw hok (bh hx).1;simp only at hxb;obtain⟨xb1,xb2,xb3,xb4,xb5,xb6⟩:=hxb;obtain⟨⟨pc,pv,pps⟩,bk,hpq,hbk,hbb,hvp,-,-⟩:=gQ hok xb3 xb4;simp only at hbb hvp;have hbn:=kJ hbb;have hpn:pps.length≤24∧1≤pps.length:=by unfold d9 at hvp;simp only[yY,decide_eq_true_eq]at hvp;omega
 have hbks:=hok.bks;obtain⟨r,rfl⟩:=zG xb3;have hRl:=ta (s:=s) (i:=t) (x:=⟨xa,xb,(r:Int)⟩) (d:=d) (f:=f) (ld:=ld) hpq hbk;simp only at hRl;have HAP:Bx (∀(j:Nat) (pg:List Int),bk[j]?=some pg→∃y,bT t.pgs xa (j:Int)=some y∧gh pc pv pps bk d f ld (j:Int) y.ch=0∧(bQ pc pv pps bk d f ld (j:Int) y.ch).length=pps.length∧∀u:Nat,(u:Int)∈pg→u<pps.length→∃v,(bQ pc pv pps bk d f ld (j:Int) y.ch)[u]?=some v∧(fC s t d f ld ⟨xa,xb,(r:Int)⟩)[u]?=some v):=⟨fun j pg hj=>by obtain⟨y,hy,hl,ha⟩:=uJ hB0 hx hpq hbk hd hj;have:=sP hB0 hx hpq hbk hv hj hy hl ha;exact⟨y,hy,this.1,this.2.1,this.2.2⟩⟩
 have HAI:Bx (∀(u:Nat) (r':ai),pps[u]?=some r'→(fC s t d f ld ⟨xa,xb,(r:Int)⟩)[u]?=some (if r'.kind=2 then (bQ pc pv pps bk d f ld (dC bk (u:Int)) ((bT t.pgs xa (dC bk (u:Int))).getD ⟨0,0,0,[],⟨0,0⟩⟩).ch).getD u 0 else -1)):=⟨fun u r' hu=>uX (s:=s) (i:=t) (x:=⟨xa,xb,(r:Int)⟩) (q:=⟨pc,pv,pps⟩) (b:=bk) hpq hbk hu⟩
 have hRI:=Bq s t d f ld ⟨xa,xb,(r:Int)⟩;obtain⟨R,hR⟩:=nm (fC s t d f ld ⟨xa,xb,(r:Int)⟩);rw[←hR]at hRl HAP HAI hRI;have HRI:=zZ hRI;rw[←hR];rw[yR]at hpq hbk;have hrP:r<nP:=by have:=HLP.out;omega
 have hrB:r<nB:=by have:=HLB.out;omega
 obtain⟨bP,oP,_,_,rfl,-⟩:=hP.at_ hrP;obtain⟨bB,oB,_,_,rfl,-⟩:=hB.at_ hrB;obtain⟨Aq,nq,cq,q0,q1,q2,hIQ,hqc,hqv⟩:=gj hP hpq (zE w).xt;obtain⟨Ab,nb,cb,b0,hIB,HNB⟩:=dQ hB hbk (zE w).xt;simp only at q0 q1 q2 hIQ hqc hqv;obtain⟨_,_,_,e9,-,-,hmq,HNQ⟩:=hIQ.open_;cases e9;have HIQ:=zZ hIQ;have HIB:=zZ hIB;have HBB:=zZ hbb;have HRL:=zZ hRl;have HHA:=zZ hB0.ascP;have hnb:nb≤12∧1≤nb:=by have:=HNB.out;omega
 have hnq:nq≤24∧1≤nq:=by have:=HNQ.out;omega
 obtain⟨hnb1,hnb2⟩:=hnb;obtain⟨hnq1,hnq2⟩:=hnq;have HN:Bx (t.sts.length≤1000∧t.pgs.length≤1000):=⟨⟨hn1,hn2⟩⟩
 clear hP hB hX hnum hS hG hB0 hx hd hv hok hpq hbk hbb hvp hbn hpn hbks hR hRl hRI hIQ hIB hqc hqv hn1 hn2 HLP HLB;obtain⟨w1,hw1⟩:=nm (((((w.alloc (.cells #[.int .i64 s.num,.slice (some ⟨bP,oP,none⟩) nP cP,.slice (some ⟨bB,oB,none⟩) nB cB,.slice AX nX cX] 27)).alloc (.cells #[.slice AS nS cS,.slice AG nG cG] 31)).alloc (.cells #[.int .i64 d,.int .i64 f,.int .i64 ld] 46)).alloc (.cells #[.int .i64 xa,.int .i64 xb,.int .i64 (r:Int)] 83)):World);have HF:Bx (ae w w1 [(w.heap.size,#[.int .i64 s.num,.slice (some ⟨bP,oP,none⟩) nP cP,.slice (some ⟨bB,oB,none⟩) nB cB,.slice AX nX cX],27),(w.heap.size+1,#[.slice AS nS cS,.slice AG nG cG],31),(w.heap.size+1+1,#[.int .i64 d,.int .i64 f,.int .i64 ld],46),(w.heap.size+1+1+1,#[.int .i64 xa,.int .i64 xb,.int .i64 (r:Int)],83)]):=⟨by rw[hw1];exact ((((ae.start w).push _ _ rfl).push _ _ (by simp)).push _ _ (by simp)).push _ _ (by simp)⟩
 go_enter func43,ntmps43
 go_upto_region 1 with (fail)
 rw[←hw1];clear hw1;go_cut [9,10] (fun s1 s2 we=>∃gP gB:Nat,s1=.pointer (some ⟨gP,0,none⟩)∧s2=.pointer (some ⟨gB,0,none⟩)∧Bx (ae w we [(w.heap.size,#[.int .i64 s.num,.slice (some ⟨bP,oP,none⟩) nP cP,.slice (some ⟨bB,oB,none⟩) nB cB,.slice AX nX cX],27),(w.heap.size+1,#[.slice AS nS cS,.slice AG nG cG],31),(w.heap.size+1+1,#[.int .i64 d,.int .i64 f,.int .i64 ld],46),(w.heap.size+1+1+1,#[.int .i64 xa,.int .i64 xb,.int .i64 (r:Int)],83),(gP,#[.int .i64 pc,.int .i64 pv,.slice Aq nq cq],89),(gB,#[.slice Ab nb cb],92)]))
 case first =>
  refine zR 15 (fun w'=>ae w w' [(w.heap.size,#[.int .i64 s.num,.slice (some ⟨bP,oP,none⟩) nP cP,.slice (some ⟨bB,oB,none⟩) nB cB,.slice AX nX cX],27),(w.heap.size+1,#[.slice AS nS cS,.slice AG nG cG],31),(w.heap.size+1+1,#[.int .i64 d,.int .i64 f,.int .i64 ld],46),(w.heap.size+1+1+1,#[.int .i64 xa,.int .i64 xb,.int .i64 (r:Int)],83)]) ?_;have kS:(fun w'=>ae w w' [(w.heap.size,#[.int .i64 s.num,.slice (some ⟨bP,oP,none⟩) nP cP,.slice (some ⟨bB,oB,none⟩) nB cB,.slice AX nX cX],27),(w.heap.size+1,#[.slice AS nS cS,.slice AG nG cG],31),(w.heap.size+1+1,#[.int .i64 d,.int .i64 f,.int .i64 ld],46),(w.heap.size+1+1+1,#[.int .i64 xa,.int .i64 xb,.int .i64 (r:Int)],83)]) w1.drew:=HF.out.drew;have kD:ab w1 w1.drew:=(zE _).drew;obtain⟨wz0,hwz0⟩:=nm (w1.drew:World);rw[←hwz0]at kS kD⊢;clear hwz0;refine zS 12 [(0,19),(1,20),(2,21),(3,22),(4,23),(5,24),(6,25),(7,26),(8,27),(9,28),(10,29),(11,30)] kS ?_;iterate 12 (apply zT;exact⟨rfl,rfl⟩;(·intro wk hk;have z1:=(hk.at_ 0 rfl).c 1 rfl;have z2:=(hk.at_ 0 rfl).c 2 rfl;have x2:=(hk.at_ 3 rfl).c 2 rfl;(replace q0:=hk.xt.cell q0);(replace q1:=hk.xt.cell q1);(replace q2:=hk.xt.cell q2);(replace b0:=hk.xt.cell b0);go_simp;try with_reducible rfl);simp only[kA];exact rfl)
  refine zN ?_;have HZ0:Bx (ae w wz0 [(w.heap.size,#[.int .i64 s.num,.slice (some ⟨bP,oP,none⟩) nP cP,.slice (some ⟨bB,oB,none⟩) nB cB,.slice AX nX cX],27),(w.heap.size+1,#[.slice AS nS cS,.slice AG nG cG],31),(w.heap.size+1+1,#[.int .i64 d,.int .i64 f,.int .i64 ld],46),(w.heap.size+1+1+1,#[.int .i64 xa,.int .i64 xb,.int .i64 (r:Int)],83)]):=⟨kS⟩
  refine bD 12 13 (by kernel_rfl) rfl rfl (fun K hK=>?_) (fun K hK=>?_)
  ·go_simp;obtain⟨wz1,hwz1⟩:=nm ((wz0.alloc (.cells #[.int .i64 0,.int .i64 0,.slice none 0 0] 89)):World);obtain⟨gz1,hgz1⟩:=nm wz0.heap.size;have HZ1:Bx (ae w wz1 [(w.heap.size,#[.int .i64 s.num,.slice (some ⟨bP,oP,none⟩) nP cP,.slice (some ⟨bB,oB,none⟩) nB cB,.slice AX nX cX],27),(w.heap.size+1,#[.slice AS nS cS,.slice AG nG cG],31),(w.heap.size+1+1,#[.int .i64 d,.int .i64 f,.int .i64 ld],46),(w.heap.size+1+1+1,#[.int .i64 xa,.int .i64 xb,.int .i64 (r:Int)],83),(gz1,#[.int .i64 0,.int .i64 0,.slice none 0 0],89)]):=⟨by rw[hwz1];exact HZ0.out.push _ _ hgz1.symm⟩
   rw[←hwz1,←hgz1];clear hwz1 hgz1;clear kS;have kS:=HZ1.out.take 4;refine hK.out _ _ (fun _=>kS) ?_;clear hK K;try simp only[kA]
   refine zO 13 (fun K hK=>?_);go_simp;obtain⟨wz2,hwz2⟩:=nm ((wz1.alloc (.cells #[.slice none 0 0] 92)):World);obtain⟨gz2,hgz2⟩:=nm wz1.heap.size;have HZ2:Bx (ae w wz2 [(w.heap.size,#[.int .i64 s.num,.slice (some ⟨bP,oP,none⟩) nP cP,.slice (some ⟨bB,oB,none⟩) nB cB,.slice AX nX cX],27),(w.heap.size+1,#[.slice AS nS cS,.slice AG nG cG],31),(w.heap.size+1+1,#[.int .i64 d,.int .i64 f,.int .i64 ld],46),(w.heap.size+1+1+1,#[.int .i64 xa,.int .i64 xb,.int .i64 (r:Int)],83),(gz1,#[.int .i64 0,.int .i64 0,.slice none 0 0],89),(gz2,#[.slice none 0 0],92)]):=⟨by rw[hwz2];exact HZ1.out.push _ _ hgz2.symm⟩
   rw[←hwz2,←hgz2];clear hwz2 hgz2;clear kS;have kS:=HZ2.out.take 4;refine hK.out _ _ (fun _=>kS) ?_;clear hK K;try simp only[kA]
   refine zO 14 (fun K hK=>?_);obtain⟨u0,u1,u2⟩:=(HZ2.out.at_ 4 rfl).p3 rfl;have v0:=(HZ2.out.at_ 4 rfl).froz;have v1:=v0;have v2:=v0;go_simp;have hZ3:=HZ2.out.setAll 4 rfl [.int .i64 pc,.int .i64 pv,.slice Aq nq cq] rfl;obtain⟨wz3,hwz3⟩:=nm ((((wz2.setCell ⟨gz1,0,none⟩ (.int .i64 pc)).setCell ⟨gz1,1,none⟩ (.int .i64 pv)).setCell ⟨gz1,2,none⟩ (.slice Aq nq cq)):World);have HZ3:Bx (ae w wz3 [(w.heap.size,#[.int .i64 s.num,.slice (some ⟨bP,oP,none⟩) nP cP,.slice (some ⟨bB,oB,none⟩) nB cB,.slice AX nX cX],27),(w.heap.size+1,#[.slice AS nS cS,.slice AG nG cG],31),(w.heap.size+1+1,#[.int .i64 d,.int .i64 f,.int .i64 ld],46),(w.heap.size+1+1+1,#[.int .i64 xa,.int .i64 xb,.int .i64 (r:Int)],83),(gz1,#[.int .i64 pc,.int .i64 pv,.slice Aq nq cq],89),(gz2,#[.slice none 0 0],92)]):=⟨by rw[hwz3];exact hZ3⟩
   rw[←hwz3];clear hwz3 hZ3 u0 v0 u1 v1 u2 v2;clear kS;have kS:=HZ3.out.take 4;refine hK.out _ _ (fun _=>kS) ?_;clear hK K;try simp only[kA]
   refine zO 15 (fun K hK=>?_);have u0:=(HZ3.out.at_ 5 rfl).c 0 rfl;have v0:=(HZ3.out.at_ 5 rfl).froz;go_simp;have hZ4:=HZ3.out.setAll 5 rfl [.slice Ab nb cb] rfl;obtain⟨wz4,hwz4⟩:=nm ((wz3.setCell ⟨gz2,0,none⟩ (.slice Ab nb cb)):World);have HZ4:Bx (ae w wz4 [(w.heap.size,#[.int .i64 s.num,.slice (some ⟨bP,oP,none⟩) nP cP,.slice (some ⟨bB,oB,none⟩) nB cB,.slice AX nX cX],27),(w.heap.size+1,#[.slice AS nS cS,.slice AG nG cG],31),(w.heap.size+1+1,#[.int .i64 d,.int .i64 f,.int .i64 ld],46),(w.heap.size+1+1+1,#[.int .i64 xa,.int .i64 xb,.int .i64 (r:Int)],83),(gz1,#[.int .i64 pc,.int .i64 pv,.slice Aq nq cq],89),(gz2,#[.slice Ab nb cb],92)]):=⟨by rw[hwz4];exact hZ4⟩
   rw[←hwz4];clear hwz4 hZ4 u0 v0;clear kS;have kS:=HZ4.out.take 4;refine hK.out _ _ (fun h=>absurd rfl h) ?_;clear hK K;refine zD ?_;go_wp2_with fail;have HFz:=HZ4;go_meet
   exact⟨gz1,gz2,rfl,rfl,HFz⟩
  ·go_simp;obtain⟨wz5,hwz5⟩:=nm ((wz0.alloc (.cells #[.slice none 0 0] 92)):World);obtain⟨gz5,hgz5⟩:=nm wz0.heap.size;have HZ5:Bx (ae w wz5 [(w.heap.size,#[.int .i64 s.num,.slice (some ⟨bP,oP,none⟩) nP cP,.slice (some ⟨bB,oB,none⟩) nB cB,.slice AX nX cX],27),(w.heap.size+1,#[.slice AS nS cS,.slice AG nG cG],31),(w.heap.size+1+1,#[.int .i64 d,.int .i64 f,.int .i64 ld],46),(w.heap.size+1+1+1,#[.int .i64 xa,.int .i64 xb,.int .i64 (r:Int)],83),(gz5,#[.slice none 0 0],92)]):=⟨by rw[hwz5];exact HZ0.out.push _ _ hgz5.symm⟩
   rw[←hwz5,←hgz5];clear hwz5 hgz5;clear kS;have kS:=HZ5.out.take 4;refine hK.out _ _ (fun _=>kS) ?_;clear hK K;try simp only[kA]
   refine zO 12 (fun K hK=>?_);go_simp;obtain⟨wz6,hwz6⟩:=nm ((wz5.alloc (.cells #[.int .i64 0,.int .i64 0,.slice none 0 0] 89)):World);obtain⟨gz6,hgz6⟩:=nm wz5.heap.size;have HZ6:Bx (ae w wz6 [(w.heap.size,#[.int .i64 s.num,.slice (some ⟨bP,oP,none⟩) nP cP,.slice (some ⟨bB,oB,none⟩) nB cB,.slice AX nX cX],27),(w.heap.size+1,#[.slice AS nS cS,.slice AG nG cG],31),(w.heap.size+1+1,#[.int .i64 d,.int .i64 f,.int .i64 ld],46),(w.heap.size+1+1+1,#[.int .i64 xa,.int .i64 xb,.int .i64 (r:Int)],83),(gz5,#[.slice none 0 0],92),(gz6,#[.int .i64 0,.int .i64 0,.slice none 0 0],89)]):=⟨by rw[hwz6];exact HZ5.out.push _ _ hgz6.symm⟩
   rw[←hwz6,←hgz6];clear hwz6 hgz6;clear kS;have kS:=HZ6.out.take 4;refine hK.out _ _ (fun _=>kS) ?_;clear hK K;try simp only[kA]
   refine zO 14 (fun K hK=>?_);obtain⟨u0,u1,u2⟩:=(HZ6.out.at_ 5 rfl).p3 rfl;have v0:=(HZ6.out.at_ 5 rfl).froz;have v1:=v0;have v2:=v0;go_simp;have hZ7:=HZ6.out.setAll 5 rfl [.int .i64 pc,.int .i64 pv,.slice Aq nq cq] rfl;obtain⟨wz7,hwz7⟩:=nm ((((wz6.setCell ⟨gz6,0,none⟩ (.int .i64 pc)).setCell ⟨gz6,1,none⟩ (.int .i64 pv)).setCell ⟨gz6,2,none⟩ (.slice Aq nq cq)):World);have HZ7:Bx (ae w wz7 [(w.heap.size,#[.int .i64 s.num,.slice (some ⟨bP,oP,none⟩) nP cP,.slice (some ⟨bB,oB,none⟩) nB cB,.slice AX nX cX],27),(w.heap.size+1,#[.slice AS nS cS,.slice AG nG cG],31),(w.heap.size+1+1,#[.int .i64 d,.int .i64 f,.int .i64 ld],46),(w.heap.size+1+1+1,#[.int .i64 xa,.int .i64 xb,.int .i64 (r:Int)],83),(gz5,#[.slice none 0 0],92),(gz6,#[.int .i64 pc,.int .i64 pv,.slice Aq nq cq],89)]):=⟨by rw[hwz7];exact hZ7⟩
   rw[←hwz7];clear hwz7 hZ7 u0 v0 u1 v1 u2 v2;clear kS;have kS:=HZ7.out.take 4;refine hK.out _ _ (fun _=>kS) ?_;clear hK K;try simp only[kA]
   refine zO 15 (fun K hK=>?_);have u0:=(HZ7.out.at_ 4 rfl).c 0 rfl;have v0:=(HZ7.out.at_ 4 rfl).froz;go_simp;have hZ8:=HZ7.out.setAll 4 rfl [.slice Ab nb cb] rfl;obtain⟨wz8,hwz8⟩:=nm ((wz7.setCell ⟨gz5,0,none⟩ (.slice Ab nb cb)):World);have HZ8:Bx (ae w wz8 [(w.heap.size,#[.int .i64 s.num,.slice (some ⟨bP,oP,none⟩) nP cP,.slice (some ⟨bB,oB,none⟩) nB cB,.slice AX nX cX],27),(w.heap.size+1,#[.slice AS nS cS,.slice AG nG cG],31),(w.heap.size+1+1,#[.int .i64 d,.int .i64 f,.int .i64 ld],46),(w.heap.size+1+1+1,#[.int .i64 xa,.int .i64 xb,.int .i64 (r:Int)],83),(gz5,#[.slice Ab nb cb],92),(gz6,#[.int .i64 pc,.int .i64 pv,.slice Aq nq cq],89)]):=⟨by rw[hwz8];exact hZ8⟩
   rw[←hwz8];clear hwz8 hZ8 u0 v0;clear kS;have kS:=HZ8.out.take 4;refine hK.out _ _ (fun h=>absurd rfl h) ?_;clear hK K;refine zD ?_;go_wp2_with fail;have HFz:Bx (ae w wz8 [(w.heap.size,#[.int .i64 s.num,.slice (some ⟨bP,oP,none⟩) nP cP,.slice (some ⟨bB,oB,none⟩) nB cB,.slice AX nX cX],27),(w.heap.size+1,#[.slice AS nS cS,.slice AG nG cG],31),(w.heap.size+1+1,#[.int .i64 d,.int .i64 f,.int .i64 ld],46),(w.heap.size+1+1+1,#[.int .i64 xa,.int .i64 xb,.int .i64 (r:Int)],83),(gz6,#[.int .i64 pc,.int .i64 pv,.slice Aq nq cq],89),(gz5,#[.slice Ab nb cb],92)]):=⟨ae.swap (L:=[(w.heap.size,#[.int .i64 s.num,.slice (some ⟨bP,oP,none⟩) nP cP,.slice (some ⟨bB,oB,none⟩) nB cB,.slice AX nX cX],27),(w.heap.size+1,#[.slice AS nS cS,.slice AG nG cG],31),(w.heap.size+1+1,#[.int .i64 d,.int .i64 f,.int .i64 ld],46),(w.heap.size+1+1+1,#[.int .i64 xa,.int .i64 xb,.int .i64 (r:Int)],83)]) HZ8.out⟩
   go_meet
   exact⟨gz6,gz5,rfl,rfl,HFz⟩
 case rest =>
  obtain⟨gP,gB,rfl,rfl,HE0⟩:=hcut;obtain⟨bq,oq,_,_,rfl,-⟩:=HIQ.out.at_ (show 0<nq by omega);go_wp2_with fail;go_loopw [11,12] (fun s11 s12 wr=>∃k:Nat,s12=.int .i64 k∧k≤nq∧Bx (ae w wr [(w.heap.size,#[.int .i64 s.num,.slice (some ⟨bP,oP,none⟩) nP cP,.slice (some ⟨bB,oB,none⟩) nB cB,.slice AX nX cX],27),(w.heap.size+1,#[.slice AS nS cS,.slice AG nG cG],31),(w.heap.size+1+1,#[.int .i64 d,.int .i64 f,.int .i64 ld],46),(w.heap.size+1+1+1,#[.int .i64 xa,.int .i64 xb,.int .i64 (r:Int)],83),(gP,#[.int .i64 pc,.int .i64 pv,.slice (some ⟨bq,oq,none⟩) nq cq],89),(gB,#[.slice Ab nb cb],92)]∧av wr w.heap.size s11 (R.take k))) (fun _ k _=>nq-(intOf k).toNat)
  case atStart=>exact⟨0,rfl,by omega,⟨⟨HE0.out,by simpa using av.nil wc w.heap.size⟩⟩⟩
  case round =>
   obtain⟨k,rfl,hk,HR⟩:=hrel;have HFr:Bx (ae w wr [(w.heap.size,#[.int .i64 s.num,.slice (some ⟨bP,oP,none⟩) nP cP,.slice (some ⟨bB,oB,none⟩) nB cB,.slice AX nX cX],27),(w.heap.size+1,#[.slice AS nS cS,.slice AG nG cG],31),(w.heap.size+1+1,#[.int .i64 d,.int .i64 f,.int .i64 ld],46),(w.heap.size+1+1+1,#[.int .i64 xa,.int .i64 xb,.int .i64 (r:Int)],83),(gP,#[.int .i64 pc,.int .i64 pv,.slice (some ⟨bq,oq,none⟩) nq cq],89),(gB,#[.slice Ab nb cb],92)]):=⟨HR.out.1⟩
   have HO:Bx (av wr w.heap.size _ (R.take k)):=⟨HR.out.2⟩
   obtain⟨Ao,co,hu⟩:=HO.out.form;rw[show (R.take k).length=k by rw[zF,HRL.out];have:=HNQ.out;omega]at hu;subst hu;clear HR HE0 HF;have p2:=(HFr.out.at_ 4 rfl).c 2 rfl;by_cases hkn:k<nq
   ·obtain⟨⟨kd,mx,tp,ob,op,ky⟩,r0,-,-,-,-,-,-,HPK⟩:=bg.part HIQ.out hkn;simp only at r0;have HV:=zZ (HAI.out k _ HPK.out);simp only at HV;obtain⟨jj,pg,hjp,hjm,hjo⟩:=Gc HBB.out (t:=k) (by have:=HNQ.out;omega);obtain⟨y,hpf,-,hpl,hpv⟩:=HAP.out jj pg hjp;have hjl:jj<bk.length:=(zY.1 hjp).1;have hjn:jj<12:=by have:=HNB.out;omega
    rw[hjo]at HV;have HJO:=zZ hjo;have HPF:=zZ hpf;have HPL:=zZ hpl;have HTK:Bx (∀z:Int,R[k]?=some z→R.take (k+1)=R.take k++[z]):=⟨fun z hz=>ag hz⟩
    replace r0:=HFr.out.xt.cell r0;clear hjp hjm hjo hpf hpl hpv hjl;by_cases hkd:kd=2;case neg =>
     have hkb:(kd==2)=false:=by simp[hkd]
     have HV1:=zZ (show R[k]?=some (-1) by rw[HV.out,if_neg hkd]);clear hkd HV;go_wp2_with (at_builtin;refine al _ rfl (.tmp 70) (.tmp 72) 22 rfl w.heap.size 3 i0 _ 8 underlying22 hi0 hz0 hz1 hz2 rfl (.slice Ao k co) _ _ rfl (ac HO.out.1 ((zE _).alloc _)) _ _ rfl (by simp;rfl) rfl (by have:=HO.out.2.2;omega) (by omega) (by have:=HFr.out.xt.size;simp;omega) ?_;intro v5 w5 hown5 hg5;have HF5:=zZ ((HFr.out.ext ((zE _).alloc _)).grownT (ac HO.out.1 ((zE _).alloc _)) hg5 (zX _) rfl);have HO5:=zZ hown5;clear hown5 hg5);go_roundw
     case rel =>
      refine⟨k+1,by go_num,by omega,⟨⟨HF5.out,?_⟩⟩⟩;rw[HTK.out _ HV1.out];refine⟨by simpa using HO5.out,fun z hz=>?_,by rw[zI,zF];simp;omega⟩;rcases zC.1 hz with hz|hz
      ·exact HO.out.2.1 z hz
      ·obtain rfl:z=-1:=by simpa using hz
       exact⟨by omega,by omega⟩
     case measure=>simp[intOf];omega
    subst hkd;have HV1:=zZ (show R[k]?=some ((bQ pc pv pps bk d f ld (jj:Int) ((bT t.pgs xa (jj:Int)).getD ⟨0,0,0,[],⟨0,0⟩⟩).ch).getD k 0) by rw[HV.out,if_pos rfl]);rw[HPF.out]at HV1;simp only[Option.getD_some]at HV1;have c0:=(HFr.out.at_ 5 rfl).c 0 rfl;go_upto_region 9 with (go_at_call 80;refine (tv _ bk (k:Int) _ (p:=p) (HIB.out.ext (RI.stab p) HFr.out.xt)).mono ?_;rintro e w3 ⟨rfl,hx3⟩;rw[HJO.out])
    have HF3:=bx (HFr.out.ext hx3);have HO3:=bx (HO.out.ext hx3);clear hx3 HFr HO p2 r0 c0 HV;have i0':=(HF3.out.at_ 1 rfl).c 0 rfl;have i1':=(HF3.out.at_ 1 rfl).c 1 rfl;have x0:=(HF3.out.at_ 3 rfl).c 0 rfl;go_upto_region 10 with (go_at_call 42;refine (jD _ t xa (jj:Int) _ (p:=p) (HT0.out.ext HF3.out.xt)).mono ?_;rintro e w5 ⟨yc,yg,yt,ys,yq,ych,yA,yn,ycc,rfl,hyd,hyi,hyw,hx5⟩)
    have HYE:Bx (y=⟨yc,yg,yt,ych,⟨ys,yq⟩⟩):=⟨by rw[HPF.out]at hyd;exact hyd⟩
    obtain⟨w6,hw6⟩:=nm ((w5.alloc (.cells #[.int .i64 yc,.int .i64 yg,.int .i64 yt,.slice yA yn ycc,.int .i64 ys,.int .i64 yq] 77)):World);obtain⟨gy,hgy⟩:=nm w5.heap.size;have hx6:ab w3 w6:=by rw[hw6];exact hx5.alloc _
    have HF6:=bx (HF3.out.ext hx6);have HO6:=bx (HO3.out.ext hx6);have HB6:Bx (Bk w6 gy #[.int .i64 yc,.int .i64 yg,.int .i64 yt,.slice yA yn ycc,.int .i64 ys,.int .i64 yq] 77):=⟨by rw[hw6,hgy];exact Bk.new _ _ _⟩
    have HY6:Bx (ao p w6 (.slice yA yn ycc) ych):=⟨hyi.ext hx6⟩
    rw[←hw6,←hgy];clear hw6 hgy hx5 hx6 hyd hyi hyw HF3 HO3 i0' i1' x0;obtain⟨p0,p1,p2⟩:=(HF6.out.at_ 4 rfl).p3 rfl;have c0:=(HF6.out.at_ 5 rfl).c 0 rfl;obtain⟨h0,h1,h2⟩:=(HF6.out.at_ 2 rfl).p3 rfl;have y3:=HB6.out.c 3 rfl;go_upto_region 11 with (go_at_call 81;refine (CD pc pv d f ld (jj:Int) _ _ _ pps bk ych _ (p:=p) (zP hp HF6.out.xt.size) (HIQ.out.ext (aI.stab p) HF6.out.xt) (HIB.out.ext (RI.stab p) HF6.out.xt) HY6.out ⟨by omega,by omega⟩).mono ?_;rintro e w7 ⟨v7,rfl,hi7,hx7⟩;obtain⟨A7,n7,c7,rfl,-,-,hm7,HL7⟩:=hi7.open_)
    have HF7:=bx (HF6.out.ext hx7);have HO7:=bx (HO6.out.ext hx7);have HI7:=zZ hi7;obtain rfl:=HYE.out;have HPL2:=HPL;simp only at HPL2 HV1;have hn7:nq=n7:=by have:=HL7.out;have:=HPL2.out;have:=HNQ.out;omega
    subst hn7;clear HPL HPF hi7 hx7 HF6 HO6 HB6 HY6 HYE p0 p1 p2 c0 h0 h1 h2 y3 HL7;obtain⟨b7,o7,zz,rfl,hc7,HZ7,hzz1,hzz2⟩:=HI7.out.at_ hkn;have HV2:=zZ (show R[k]?=some zz by rw[HV1.out];unfold List.getD;rw[HZ7.out];rfl)
    clear HV1 HZ7;go_wp2_with (at_builtin;refine al _ rfl (.tmp 70) (.tmp 72) 22 rfl w.heap.size 3 i0 _ 8 underlying22 hi0 hz0 hz1 hz2 rfl (.slice Ao k co) _ _ rfl (ac HO7.out.1 ((zE _).alloc _)) _ _ rfl (by simp;rfl) rfl (by have:=HO7.out.2.2;omega) (by omega) (by have:=HF7.out.xt.size;simp;omega) ?_;intro v5 w5 hown5 hg5;have HF5:=zZ ((HF7.out.ext ((zE _).alloc _)).grownT (ac HO7.out.1 ((zE _).alloc _)) hg5 (zX _) rfl);have HO5:=zZ hown5;clear hown5 hg5);go_roundw
    case rel =>
     refine⟨k+1,by go_num,by omega,⟨⟨HF5.out,?_⟩⟩⟩;rw[HTK.out _ HV2.out];refine⟨by simpa using HO5.out,fun z hz=>?_,by rw[zI,zF];simp;omega⟩;rcases zC.1 hz with hz|hz
     ·exact HO7.out.2.1 z hz
     ·obtain rfl:z=zz:=by simpa using hz
      exact⟨by omega,by omega⟩
    case measure=>simp[intOf];omega
   ·obtain rfl:k=nq:=by omega
    have HT:=zZ (show R.take k=R by rw[aD (by rw[HRL.out,HNQ.out])]);go_wp2_with fail;go_ret
    exact⟨⟨.slice Ao k co,rfl,by rw[←HT.out];exact HO.out⟩,HFr.out.xt⟩
theorem jr(v vi:Value)(s:aZ)(t:en)(d f ld c:Int)(w:World)(hp:p<w.heap.size)(hs:aN p w v s)(ht:bN p w vi t)(hn1:t.sts.length≤1000)(hn2:t.pgs.length≤1000) :
  Calls prog 26 #[v,vi,.agg #[.int .i64 d,.int .i64 f,.int .i64 ld],.int .i64 c] w (DT w (m5 s t d f ld c) (jk s t d f ld c)):=by
 obtain⟨er,her⟩:=nm (m5 s t d f ld c:Int);obtain⟨lr,hlr⟩:=nm (jk s t d f ld c:List Int);rw[←her,←hlr];have HER:=zZ her;have HLR:=zZ hlr;clear her hlr;have HS0:=zZ hs;have HT0:=zZ ht;obtain⟨vP,vB,vX,rfl,hP,hB,hX,hnum⟩:=hs;obtain⟨AP,nP,cP,rfl,-⟩:=hP.open_;obtain⟨AB,nB,cB,rfl,hnB,hcB,hmB,HLB⟩:=hB.open_;obtain⟨AX,nX,cX,rfl,hncX,hccX,hnnX,HLX⟩:=hX.open_;obtain⟨vS,vG,rfl,hS,hG⟩:=ht;obtain⟨AS,nS,cS,rfl,-⟩:=hS.open_;obtain⟨AG,nG,cG,rfl,-⟩:=hG.open_;have HX0:Bx (d7 p w (.slice AX nX cX) s.xp):=⟨hX⟩
 have HB0:Bx (gm p w (.slice AB nB cB) s.bk):=⟨hB⟩
 have HN:Bx (t.sts.length≤1000∧t.pgs.length≤1000):=⟨⟨hn1,hn2⟩⟩
 clear hP hB hX hnum hS hG hn1 hn2;obtain⟨w1,hw1⟩:=nm ((((w.alloc (.cells #[.int .i64 s.num,.slice AP nP cP,.slice AB nB cB,.slice AX nX cX] 27)).alloc (.cells #[.slice AS nS cS,.slice AG nG cG] 31)).alloc (.cells #[.int .i64 d,.int .i64 f,.int .i64 ld] 46)):World);have HF:Bx (ae w w1 [(w.heap.size,#[.int .i64 s.num,.slice AP nP cP,.slice AB nB cB,.slice AX nX cX],27),(w.heap.size+1,#[.slice AS nS cS,.slice AG nG cG],31),(w.heap.size+1+1,#[.int .i64 d,.int .i64 f,.int .i64 ld],46)]):=⟨by rw[hw1];exact (((ae.start w).push _ _ rfl).push _ _ (by simp)).push _ _ (by simp)⟩
 go_enter func26,ntmps26
 go_upto_region 1 with (fail)
 rw[←hw1];clear hw1;obtain⟨z0,z1,z2,z3⟩:=(HF.out.at_ 0 rfl).p4 rfl;obtain⟨i0,i1⟩:=(HF.out.at_ 1 rfl).p2 rfl;go_wp2_with fail;refine (iL _ _ s t _ (p:=p) (zP hp HF.out.xt.size) (HS0.out.ext HF.out.xt) (HT0.out.ext HF.out.xt) HN.out.1 HN.out.2).mono ?_;rintro e w2 ⟨rfl,hx2⟩;have HF2:=bx (HF.out.ext hx2);clear HF hx2 z0 z1 z2 z3 i0 i1;cases hb:aV s t with
 |false =>
  obtain rfl:er=1:=by rw[HER.out,m5,if_neg (by rw[hb];simp)]
  obtain rfl:lr=[]:=by rw[HLR.out,jk,if_neg (by rw[hb];simp)]
  clear hb;go_wp2_with fail;refine bodyPost_ret (v:=.tuple #[.slice none 0 0,.int .i64 1]) (by simp[results,results26,go_sem]) rfl ⟨⟨.slice none 0 0,rfl,av.nil _ _⟩,HF2.out.xt⟩
 |true =>
 have HBEL:=zZ (eQ.1 hb);have HP:=zZ (fn hb);have hnX:nX≤60:=by have:=HP.out.1.len.2.2;have:=HLX.out;omega
 obtain⟨hsn1,hsn2⟩:=HP.out.1.num;obtain⟨hh0,hh1,hh2⟩:=(HF2.out.at_ 2 rfl).p3 rfl;go_wp2_with fail;refine (ey d f ld _).mono ?_;rintro e w3 ⟨rfl,hx3⟩;have HF3:=bx (HF2.out.ext hx3);clear HF2 hx3 hh0 hh1 hh2;cases hvl:dp d f ld with
 |false =>
  obtain rfl:er=2:=by rw[HER.out,m5,if_pos hb,if_neg (by rw[hvl];simp)]
  obtain rfl:lr=[]:=by rw[HLR.out,jk,if_neg (by rw[hvl];simp)]
  clear hb hvl;go_wp2_with fail;refine bodyPost_ret (v:=.tuple #[.slice none 0 0,.int .i64 2]) (by simp[results,results26,go_sem]) rfl ⟨⟨.slice none 0 0,rfl,av.nil _ _⟩,HF3.out.xt⟩
 |true =>
 have HVL:=zZ hvl;have HE1:=zZ (show er=(match aJ s.xp c with|some x=>if bM s t x=true then 0 else 8|none=>4) by rw[HER.out,m5,if_pos hb,if_pos hvl];try rfl);have HL1:=zZ (show lr=(match aJ s.xp c with|some x=>if bM s t x=true then fC s t d f ld x else []|none=>[]) by rw[HLR.out,jk,if_pos ⟨hb,hvl⟩];try rfl);clear hb hvl HER HLR;obtain⟨z0,z1,z2,z3⟩:=(HF3.out.at_ 0 rfl).p4 rfl;go_upto_region 6 with (go_at_call 47;refine (jM _ s c _ (HS0.out.ext HF3.out.xt)).mono ?_;rintro e w4 ⟨⟨fa,fb,fd,rfl,hfx0⟩,hx4⟩)
 have HFX:=zZ hfx0;obtain⟨gx,hgx⟩:=nm w4.heap.size;obtain⟨w5,hw5⟩:=nm ((w4.alloc (.cells #[.int .i64 fa,.int .i64 fb,.int .i64 fd] 83)):World);have HF5:Bx (ae w w5 [(w.heap.size,#[.int .i64 s.num,.slice AP nP cP,.slice AB nB cB,.slice AX nX cX],27),(w.heap.size+1,#[.slice AS nS cS,.slice AG nG cG],31),(w.heap.size+1+1,#[.int .i64 d,.int .i64 f,.int .i64 ld],46),(gx,#[.int .i64 fa,.int .i64 fb,.int .i64 fd],83)]):=⟨by rw[hw5];exact (HF3.out.ext hx4).push _ _ hgx.symm⟩
 rw[←hw5,←hgx];clear hw5 hfx0 hx4 hgx HF3 z0 z1 z2 z3;cases hfx:aJ s.xp c with
 |none =>
  obtain rfl:er=4:=by rw[HE1.out,hfx]
  obtain rfl:lr=[]:=by rw[HL1.out,hfx]
  clear hfx;go_wp2_with fail;refine bodyPost_ret (v:=.tuple #[.slice none 0 0,.int .i64 4]) (by simp[results,results26,go_sem]) rfl ⟨⟨.slice none 0 0,rfl,av.nil _ _⟩,HF5.out.xt⟩
 |some x0 =>
  obtain rfl:x0=⟨fa,fb,fd⟩:=by have:=HFX.out;rw[hfx]at this;exact this
  obtain rfl:fa=c:=(bh hfx).2;have HMX:=zZ (bh hfx).1;have HFS:=zZ hfx;have hfd:=ll;obtain⟨z0,z1,z2,z3⟩:=(HF5.out.at_ 0 rfl).p4 rfl;obtain⟨i0,i1⟩:=(HF5.out.at_ 1 rfl).p2 rfl;obtain⟨x0,x1,x2⟩:=(HF5.out.at_ 3 rfl).p3 rfl;cases hdn:bM s t ⟨fa,fb,fd⟩ with
  |false =>
   obtain rfl:er=8:=by rw[HE1.out,hfx];simp only[hdn];rfl
   obtain rfl:lr=[]:=by rw[HL1.out,hfx];simp only[hdn];rfl
   have hstb:((bW s t ⟨fa,fb,fd⟩).state != 1)=true:=by have:=lm hdn;simp[this]
   clear hfx hdn;go_wp2_with (go_at_call 36;refine (eZ _ _ s t fa fb fd _ (p:=p) (zP hp HF5.out.xt.size) (HS0.out.ext HF5.out.xt) (HT0.out.ext HF5.out.xt) HP.out.1 HMX.out HN.out.1).mono ?_;rintro e w6 ⟨⟨vp,rfl,hvp⟩,hx6⟩;obtain⟨Ap,cp,rfl⟩:=hvp.form;clear hvp;have HF6:=zZ (HF5.out.ext hx6));refine bodyPost_ret (v:=.tuple #[.slice none 0 0,.int .i64 8]) (by simp[results,results26,go_sem]) rfl ⟨⟨.slice none 0 0,rfl,av.nil _ _⟩,HF6.out.xt⟩
  |true =>
   obtain rfl:er=0:=by rw[HE1.out,hfx];simp only[hdn];rfl
   have HL2:=zZ (show lr=fC s t d f ld ⟨fa,fb,fd⟩ by rw[HL1.out,hfx];simp only[hdn];rfl);have HDN:=zZ hdn;have HST:=zZ (iI hdn);clear hfx hdn HE1 HL1;go_upto_region 10 with (go_at_call 36;refine (eZ _ _ s t fa fb fd _ (p:=p) (zP hp HF5.out.xt.size) (HS0.out.ext HF5.out.xt) (HT0.out.ext HF5.out.xt) HP.out.1 HMX.out HN.out.1).mono ?_;rintro e w6 ⟨⟨vp,rfl,hvp⟩,hx6⟩;obtain⟨Ap,cp,rfl⟩:=hvp.form;clear hvp;rw[HST.out])
   have HF6:=zZ (HF5.out.ext hx6);clear HF5 hx6 z0 z1 z2 z3 i0 i1 x0 x1 x2;obtain⟨z0,z1,z2,z3⟩:=(HF6.out.at_ 0 rfl).p4 rfl;obtain⟨i0,i1⟩:=(HF6.out.at_ 1 rfl).p2 rfl;obtain⟨h0,h1,h2⟩:=(HF6.out.at_ 2 rfl).p3 rfl;obtain⟨x0,x1,x2⟩:=(HF6.out.at_ 3 rfl).p3 rfl;go_wp2_with (go_at_call 43;refine (lf _ _ s t d f ld fa fb fd _ (p:=p) (zP hp HF6.out.xt.size) (HS0.out.ext HF6.out.xt) (HT0.out.ext HF6.out.xt) HBEL.out HFS.out HDN.out HVL.out HN.out.1 HN.out.2).mono ?_;rintro e w7 ⟨⟨vr,rfl,hvr⟩,hx7⟩;have HV7:=zZ (hvr.base_ HF6.out.xt.size);have HF7:=zZ (HF6.out.ext hx7);obtain⟨Ar,cr,rfl⟩:=hvr.form;clear hvr hx7);refine bodyPost_ret (v:=.tuple #[.slice Ar _ cr,.int .i64 0]) (by simp[results,results26,go_sem];rfl) rfl ⟨⟨.slice Ar _ cr,rfl,by rw[HL2.out];exact HV7.out⟩,HF7.out.xt⟩
end Go.Proofs.YtjgfgdcaocbfhaaGreat

