import Derived.Test.YtjgfgdcaocbfhaaGreatScP
import Derived.Deep.CutBlock
import Derived.Test.YtjgfgdcaocbfhaaGreatSitU
set_option linter.all false
set_option maxRecDepth 100000
set_option maxHeartbeats 0
namespace Go.Proofs.YtjgfgdcaocbfhaaGreat
open Go.Value renaming int→A,slice→C
open Go.IntKind renaming i64→B
open Go.RowKit _root_.Go.Proofs.Tryz
theorem i3(p:Nat)(n:Nat)(w:World)(h:bt w p)(hn:n≤1000) :
  Calls prog 8 #[.pointer (some ⟨p,0,none⟩),A B (n:Int)] w (fX p w fun v w'=>Hm p (n:Int) v w'):=by
 have hlt:=h.lt;obtain⟨w1,hw1⟩:=nm (((w.alloc (.cells #[A B 0,C none 0 0,C none 0 0,C none 0 0] 27)).alloc (.cells #[C none 0 0,C none 0 0] 31)):World);have HF1:Bx (Fr p w w1 [(w.heap.size,#[A B 0,C none 0 0,C none 0 0,C none 0 0],27),(w.heap.size+1,#[C none 0 0,C none 0 0],31)]):=⟨by rw[hw1];exact ((Fr.start h).push _ _ rfl).push _ _ (by simp)⟩
 have HS1:Bx (w1.heap.size=w.heap.size+1+1):=⟨by rw[hw1];simp⟩
 go_enter func8,ntmps8
 go_upto_region 1 with (fail)
 rw[←hw1];clear hw1 h;go_upto_region 2 with (go_at_call 27;refine (mO p 0 _ HF1.out.tp (by omega) (by omega)).mono ?_;rintro e w2 ⟨v2,rfl,⟨s,hsv,hsw,hso⟩,HT2,HX2⟩;obtain⟨AP,cP,AB,cB,AX,cX,rfl⟩:=hsv.forms;have HV2:Bx (ef w2 (w.heap.size+1+1) (.agg #[A B s.num,C AP s.pap.length cP,C AB s.bk.length cB,C AX s.xp.length cX]) s):=⟨by have h:=hsv;rw[HS1.out]at h;exact h⟩;clear hsv)
 have HWF:=zZ hsw;have HOK:=zZ (hso trivial);obtain⟨gS,hgS⟩:=nm w2.heap.size;obtain⟨w3,hw3⟩:=nm ((w2.alloc (.cells #[A B s.num,C AP s.pap.length cP,C AB s.bk.length cB,C AX s.xp.length cX] 27)):World);have HF3:Bx (Fr p w w3 [(w.heap.size,#[A B 0,C none 0 0,C none 0 0,C none 0 0],27),(w.heap.size+1,#[C none 0 0,C none 0 0],31),(gS,#[A B s.num,C AP s.pap.length cP,C AB s.bk.length cB,C AX s.xp.length cX],27)]):=⟨by rw[hw3];exact (HF1.out.step HX2 HT2).push _ _ hgS.symm⟩
 have HV3:Bx (ef w3 (w.heap.size+1+1) (.agg #[A B s.num,C AP s.pap.length cP,C AB s.bk.length cB,C AX s.xp.length cX]) s):=⟨by rw[hw3];exact HV2.out.xt (q:=p) ((XT.refl p _).alloc _) (by omega)⟩
 rw[←hw3,←hgS];clear hw3 hgS HV2 HX2 HT2 HF1 hso hsw HS1;go_upto_if 16 with (go_at_call 18;refine (au p 3 _ HF3.out.tp (by omega)).mono ?_;rintro e w4 ⟨v4,rfl,⟨r,rfl,hr1,hr2⟩,HT4,HX4⟩)
 have HF4:=bx (HF3.out.step HX4 HT4);have HV4:=bx (HV3.out.xt HX4 (by omega));clear HF3 HV3 HT4 HX4;go_cut [7] (fun s7 wx=>∃ys,Bx (Fr p w wx [(w.heap.size,#[A B 0,C none 0 0,C none 0 0,C none 0 0],27),(w.heap.size+1,#[C none 0 0,C none 0 0],31),(gS,#[A B s.num,C AP s.pap.length cP,C AB s.bk.length cB,C AX s.xp.length cX],27)]∧ef wx (w.heap.size+1+1) (.agg #[A B s.num,C AP s.pap.length cP,C AB s.bk.length cB,C AX s.xp.length cX]) s∧ie p (w.heap.size+1+1) wx s7 ys∧ys.length≤60))
 case first =>
  by_cases hr:r>0;case neg =>
   have hrb:decide (r>0)=false:=decide_eq_false hr;go_wp2_with fail;go_meet
   exact⟨[],⟨⟨HF4.out,HV4.out,ie.of_row (aq.nil _ _) (by omega),by simp⟩⟩⟩
  have hrb:decide (r>0)=true:=decide_eq_true hr;obtain⟨z0,z1,z2,z3⟩:=(HF4.out.at_ 2 rfl).p4 rfl;go_upto_region 5 with (go_at_call 28;refine (Cc p _ s _ HF4.out.tp (HV4.out.isSit HWF.out (by omega)) HOK.out).mono ?_;rintro e w5 ⟨v5,rfl,⟨ys,hrow,hwho⟩,HT5,HX5⟩)
  have hyl:ys.length≤60:=by have:=Gm hwho HWF.out;simpa using this
  have HF5:=bx (HF4.out.step HX5 HT5);have HV5:=bx (HV4.out.xt HX5 (by omega));have HL5:Bx (ie p (w.heap.size+1+1) w5 v5 ys):=⟨ie.of_row (hrow.base_ (by have:=HF4.out.bl.lt 1 rfl;omega)) (by omega)⟩
  clear HF4 HV4 hrow hwho HT5 HX5 z0 z1 z2 z3 hr hrb hr1 hr2;obtain⟨A5,c5,rfl⟩:=HL5.out.form;go_upto_region 6 with (go_at_call 18;refine (au p 3 _ HF5.out.tp (by omega)).mono ?_;rintro e w6 ⟨v6,rfl,⟨q,rfl,hq1,hq2⟩,HT6,HX6⟩)
  have HF6:=bx (HF5.out.step HX6 HT6);have HV6:=bx (HV5.out.xt HX6 (by omega));have HL6:=bx (HL5.out.xt HX6 (by omega));obtain⟨q0,rfl⟩:=zG hq1;have hq3:q0≤3:=by omega
  clear HF5 HV5 HL5 HT6 HX6 hq1 hq2;go_loopw [7,8] (fun s7 s8 wr=>∃(i:Nat) (ys:List (aF×Value)),s8=A B i∧i≤3∧Bx (Fr p w wr [(w.heap.size,#[A B 0,C none 0 0,C none 0 0,C none 0 0],27),(w.heap.size+1,#[C none 0 0,C none 0 0],31),(gS,#[A B s.num,C AP s.pap.length cP,C AB s.bk.length cB,C AX s.xp.length cX],27)]∧ef wr (w.heap.size+1+1) (.agg #[A B s.num,C AP s.pap.length cP,C AB s.bk.length cB,C AX s.xp.length cX]) s∧ie p (w.heap.size+1+1) wr s7 ys∧ys.length≤60)) (fun _ i _=>(intOf i).toNat)
  case atStart=>exact⟨q0,ys,rfl,hq3,⟨⟨HF6.out,HV6.out,HL6.out,hyl⟩⟩⟩
  case round =>
   obtain⟨i,xs,rfl,hi,HR⟩:=hrel;obtain⟨A7,c7,hu⟩:=HR.out.2.2.1.form;obtain⟨m,hm⟩:=nm xs.length;rw[←hm]at hu;have HFr:Bx (Fr p w wr [(w.heap.size,#[A B 0,C none 0 0,C none 0 0,C none 0 0],27),(w.heap.size+1,#[C none 0 0,C none 0 0],31),(gS,#[A B s.num,C AP s.pap.length cP,C AB s.bk.length cB,C AX s.xp.length cX],27)]):=⟨HR.out.1⟩
   have HVr:Bx (ef wr (w.heap.size+1+1) (.agg #[A B s.num,C AP s.pap.length cP,C AB s.bk.length cB,C AX s.xp.length cX]) s):=⟨HR.out.2.1⟩
   have HLr:Bx (ie p (w.heap.size+1+1) wr (C A7 m c7) xs):=⟨by rw[←hu];exact HR.out.2.2.1⟩
   have hm60:m≤60:=by rw[hm];exact HR.out.2.2.2
   subst hu;have HM:=zZ hm;clear HR HF6 HV6 HL6 hm hyl;by_cases hc:0<i∧0<m
   ·obtain⟨hi0,hm0⟩:=hc;obtain⟨ad,-,c8,e8,hmc,hcc,hmm,-⟩:∃(x:Unit) (y:Unit) (c8:Nat),(Value.slice A7 m c7=C A7 m c8)∧m≤c8∧c8≤9223372036854775807∧True∧True:=by
     obtain⟨A9,c9,e9,h9,h8,-⟩:=HLr.out.rd;cases e9;exact⟨(),(),_,rfl,by have:=HM.out;omega,h8,trivial,trivial⟩
    cases e8;clear ad;go_upto_region 9 with (go_at_call 18;refine (au p m _ HFr.out.tp (by omega)).mono ?_;rintro e w8 ⟨v8,rfl,⟨t,rfl,ht1,ht2⟩,HT8,HX8⟩)
    obtain⟨k,rfl⟩:=zG ht1;have hkm:k<m:=by omega
    have HF8:=bx (HFr.out.step HX8 HT8);have HV8:=bx (HVr.out.xt HX8 (by omega));have HL8:=bx (HLr.out.xt HX8 (by omega));obtain⟨b7,o7,cs7,hA7,-⟩:∃b off cs,A7=some ⟨b,off,none⟩∧(cs:List Value)=cs:=by obtain⟨A9,c9,e9,h9,h8,h4⟩:=HL8.out.rd;cases e9;obtain⟨b,off,cs,ha,_⟩:=h4 0 xs[0] (zW (by have:=HM.out;omega));exact⟨b,off,cs,ha,rfl⟩
    subst hA7;clear HFr HVr HLr HT8 HX8 ht1 ht2 cs7;have HTK:=zZ (HL8.out.rd.takeFull (show k≤m by omega));have HDR:=zZ (HL8.out.rd.drop (show k+1≤m by omega));obtain⟨ii,hii⟩:=nm (i-1);have HII:=zZ hii;clear hii;by_cases hck:c7=k+1
    ·rw[if_pos hck]at HDR;have hkx:(k:Int)≤(c7:Int):=by omega
     have hwk:IntKind.i64.wrap ((k:Int)+1)=((k+1:Nat):Int):=by rw[yQ _ (by omega)];omega
     have hkm1:(((k+1:Nat):Int)≤(m:Int))=True:=eq_true (by omega);have hkm2:(0≤(k:Int)+1∧(k:Int)+1≤(m:Int))=True:=eq_true (by omega);have hkm3:(k:Int)+1≤(m:Int):=by omega
     have hkm4:0≤(k:Int)+1:=by omega
     have hmx:(m:Int)≤(c7:Int):=by omega
     have HCK:=zZ hck;have hck2:(c7=k+1)=True:=eq_true hck;clear hck;refine zR 9 (fun _=>True) ?_;have kS:(fun _=>True) w8.drew:=trivial;have kD:ab w8 w8.drew:=(zE _).drew;obtain⟨w9,hw9⟩:=nm (w8.drew:World);rw[←hw9]at kS kD⊢;clear hw9;have HF9:=bx (HF8.out.ext kD);have HV9:=bx (HV8.out.xt (q:=p) kD.xt (by omega));have HTK9:=zZ (HTK.out.xt (AH.stab (by omega)) (kD.xt (p:=p)));have HDR9:=zZ (HDR.out.xt (AH.stab (by omega)) (kD.xt (p:=p)));clear HF8 HV8 HL8 HTK HDR kD;refine zS 8 [(0,35),(1,36),(2,37),(3,38),(4,39),(5,40),(6,41),(7,42)] kS ?_;iterate 8 (apply zT;exact⟨rfl,rfl⟩;(·intro wk hk;skip;go_simp;try with_reducible rfl);simp only[kA];exact rfl)
     refine zN (zO 8 (fun K hK=>?_));obtain⟨vz,wz,hrun,hxz,hlz⟩:=jw 64 HTK9.out HDR9.out (by omega) (by have:=HF9.out.bl.lt 1 rfl;omega) (by omega);obtain⟨zs,hzs⟩:=nm (xs.take k++xs.drop (k+1));rw[←hzs]at hlz;have hlen:zs.length≤60:=by rw[hzs,zI,zF,xS];have:=HM.out;omega
     obtain⟨nz,hnz⟩:=nm zs.length;obtain⟨Az,cz,hvz⟩:=hlz.form;rw[←hnz]at hvz;subst hvz;clear hzs hnz;refine lC (by rfl) _ _ _ (by rfl) (by rfl) (by rfl) hrun ?_;have HFz:=bx (HF9.out.ext hxz);have HVz:=bx (HV9.out.xt (q:=p) hxz.xt (by omega));have HLz:Bx (ie p (w.heap.size+1+1) wz (C Az nz cz) zs):=⟨hlz⟩
     change K (Act.put _ (some 43) _) wz;refine hK.out _ _ (fun _=>trivial) ?_;clear hK K;try simp only[kA]
     refine zO 9 (fun K hK=>?_);go_simp;refine hK.out _ _ (fun h=>absurd rfl h) ?_;clear hK K;refine zD ?_;clear kS hrun hxz hlz HF9 HV9 HTK9 HDR9;go_wp2_with fail;go_roundw
     case rel=>exact⟨ii,_,by have:=HII.out;go_num,by have:=HII.out;omega,⟨⟨HFz.out,HVz.out,HLz.out,hlen⟩⟩⟩
     case measure=>simp[intOf];omega
    ·rw[if_neg hck]at HDR;have hkx:(k:Int)≤(c7:Int):=by omega
     have hwk:IntKind.i64.wrap ((k:Int)+1)=((k+1:Nat):Int):=by rw[yQ _ (by omega)];omega
     have hkm1:(((k+1:Nat):Int)≤(m:Int))=True:=eq_true (by omega);have hkm2:(0≤(k:Int)+1∧(k:Int)+1≤(m:Int))=True:=eq_true (by omega);have hkm3:(k:Int)+1≤(m:Int):=by omega
     have hkm4:0≤(k:Int)+1:=by omega
     have hmx:(m:Int)≤(c7:Int):=by omega
     refine zR 9 (fun _=>True) ?_;have kS:(fun _=>True) w8.drew:=trivial;have kD:ab w8 w8.drew:=(zE _).drew;obtain⟨w9,hw9⟩:=nm (w8.drew:World);rw[←hw9]at kS kD⊢;clear hw9;have HF9:=bx (HF8.out.ext kD);have HV9:=bx (HV8.out.xt (q:=p) kD.xt (by omega));have HTK9:=zZ (HTK.out.xt (AH.stab (by omega)) (kD.xt (p:=p)));have HDR9:=zZ (HDR.out.xt (AH.stab (by omega)) (kD.xt (p:=p)));clear HF8 HV8 HL8 HTK HDR kD;refine zS 8 [(0,35),(1,36),(2,37),(3,38),(4,39),(5,40),(6,41),(7,42)] kS ?_;iterate 8 (apply zT;exact⟨rfl,rfl⟩;(·intro wk hk;skip;go_simp;try with_reducible rfl);simp only[kA];exact rfl)
     refine zN (zO 8 (fun K hK=>?_));obtain⟨vz,wz,hrun,hxz,hlz⟩:=jw 64 HTK9.out HDR9.out (by omega) (by have:=HF9.out.bl.lt 1 rfl;omega) (by omega);obtain⟨zs,hzs⟩:=nm (xs.take k++xs.drop (k+1));rw[←hzs]at hlz;have hlen:zs.length≤60:=by rw[hzs,zI,zF,xS];have:=HM.out;omega
     obtain⟨nz,hnz⟩:=nm zs.length;obtain⟨Az,cz,hvz⟩:=hlz.form;rw[←hnz]at hvz;subst hvz;clear hzs hnz;refine lC (by rfl) _ _ _ (by rfl) (by rfl) (by rfl) hrun ?_;have HFz:=bx (HF9.out.ext hxz);have HVz:=bx (HV9.out.xt (q:=p) hxz.xt (by omega));have HLz:Bx (ie p (w.heap.size+1+1) wz (C Az nz cz) zs):=⟨hlz⟩
     change K (Act.put _ (some 43) _) wz;refine hK.out _ _ (fun _=>trivial) ?_;clear hK K;try simp only[kA]
     refine zO 9 (fun K hK=>?_);go_simp;refine hK.out _ _ (fun h=>absurd rfl h) ?_;clear hK K;refine zD ?_;clear kS hrun hxz hlz HF9 HV9 HTK9 HDR9;go_wp2_with fail;go_roundw
     case rel=>exact⟨ii,_,by have:=HII.out;go_num,by have:=HII.out;omega,⟨⟨HFz.out,HVz.out,HLz.out,hlen⟩⟩⟩
     case measure=>simp[intOf];omega
   ·by_cases hi0:0<i
    ·obtain rfl:m=0:=by omega
     go_wp2_with fail;go_meet
     exact⟨xs,⟨⟨HFr.out,HVr.out,HLr.out,by have:=HM.out;omega⟩⟩⟩
    ·obtain rfl:i=0:=by omega
     go_wp2_with fail;go_meet
     exact⟨xs,⟨⟨HFr.out,HVr.out,HLr.out,by have:=HM.out;omega⟩⟩⟩
 case rest =>
 obtain⟨ys,HC⟩:=hcut;obtain⟨A7,c7,hu⟩:=HC.out.2.2.1.form;obtain⟨ny,hny⟩:=nm ys.length;rw[←hny]at hu;have HFc:Bx (Fr p w wc [(w.heap.size,#[A B 0,C none 0 0,C none 0 0,C none 0 0],27),(w.heap.size+1,#[C none 0 0,C none 0 0],31),(gS,#[A B s.num,C AP s.pap.length cP,C AB s.bk.length cB,C AX s.xp.length cX],27)]):=⟨HC.out.1⟩
 have HVc:Bx (ef wc (w.heap.size+1+1) (.agg #[A B s.num,C AP s.pap.length cP,C AB s.bk.length cB,C AX s.xp.length cX]) s):=⟨HC.out.2.1⟩
 have HLc:Bx (ie p (w.heap.size+1+1) wc (C A7 ny c7) ys):=⟨by rw[←hu];exact HC.out.2.2.1⟩
 have hny60:ny≤60:=by rw[hny];exact HC.out.2.2.2
 subst hu;have HNY:=zZ hny;clear HC HF4 HV4 hny;obtain⟨z0,z1,z2,z3⟩:=(HFc.out.at_ 2 rfl).p4 rfl;go_upto_region 11 with (first
  |(go_at_call 29;refine (sj p _ s 5 _ HFc.out.tp (HVc.out.isSit HWF.out (by omega)) HWF.out (by omega)).mono ?_;rintro e w8 ⟨v8,rfl,⟨zs,hrow8,hzl⟩,HT8,HX8⟩;have HF8:=zZ (HFc.out.step HX8 HT8);have HV8:=zZ (HVc.out.xt HX8 (by omega));have HL8:=zZ (HLc.out.xt HX8 (by omega));have HZ8:=zZ ((hrow8.base_ (show (w.heap.size+1+1)≤wc.heap.size by have:=HFc.out.bl.lt 1 rfl;omega)).rdC (show p<(w.heap.size+1+1) by omega));obtain⟨Az,cz,rfl⟩:=hrow8.form;clear hrow8 HX8 HT8)
  |(at_builtin;obtain⟨v9,w9,hrun,⟨row,hg9,hr9,hq9⟩,hcs9⟩:=vD 64 HL8.out HZ8.out (by omega) (by have:=HF8.out.bl.lt 1 rfl;omega) (by have:=HNY.out;omega);refine zh _ (by rfl) _ _ _ (by rfl) (by rfl) (by rfl) hrun ?_;have HF9:=zZ (HF8.out.grown hg9 (fun k x hk=>hq9 x.1 x.2.1 x.2.2 (HF8.out.at_ k hk) (by match k,hk with|0,hk=>(simp at hk;subst hk;simp only;decide)|1,hk=>(simp at hk;subst hk;simp only;decide)|2,hk=>(simp at hk;subst hk;simp only;decide))) (fun k hk=>by have:=hr9 k hk;omega));have HV9:=zZ (HV8.out.grownC hg9 hq9);have HC9:=zZ hcs9;obtain⟨A9,n9,c9,rfl,-⟩:=hcs9.open_;clear hcs9 hrun hg9 hr9 hq9))
 have hl9:((ys++zs).map Prod.fst).length≤300:=by rw[zM,zI];have:=HNY.out;omega
 obtain⟨cl,hcl⟩:=nm ((ys++zs).map Prod.fst);rw[←hcl]at HC9 hl9;clear hcl HF8 HV8 HL8 HZ8 HFc HVc HLc z0 z1 z2 z3;obtain⟨z0,z1,z2,z3⟩:=(HF9.out.at_ 2 rfl).p4 rfl;go_upto_region 12 with (go_at_call 30;refine (BV _ _ s cl _ (p:=p) (zP HF9.out.hp HF9.out.xt.size) (HV9.out.isSit HWF.out (by omega)) HC9.out hl9).mono ?_;rintro e w11 ⟨vS,vG,rfl,hoS,hoG,hx11⟩;obtain⟨AS,cs',rfl⟩:=hoS.form;obtain⟨AG,cg',rfl⟩:=hoG.form)
 obtain⟨tt,htt⟩:=nm (if aw s=0 then eX s (bR cl) else ⟨[],[]⟩:en);have hln:=DK s cl hl9;have HACC:=zZ (Hf s cl);rw[←htt]at hoS hoG hln HACC;rw[←htt];obtain⟨nS,hnS⟩:=nm tt.sts.length;obtain⟨nG,hnG⟩:=nm tt.pgs.length;rw[←hnS]at hoS hln;rw[←hnG]at hoG hln;rw[←hnS,←hnG];obtain⟨hln1,hln2⟩:=hln;obtain⟨gI,hgI⟩:=nm w11.heap.size;obtain⟨w12,hw12⟩:=nm ((w11.alloc (.cells #[C AS nS cs',C AG nG cg'] 31)):World);have HSW:Bx (ni p gS gI w w9 w12 #[A B s.num,C AP s.pap.length cP,C AB s.bk.length cB,C AX s.xp.length cX] (C AS nS cs') (C AG nG cg') s tt):=⟨by
  have hx12:ab w9 w12:=by rw[hw12];exact hx11.alloc _
  have hx12':ab w11 w12:=by rw[hw12];exact (zE _).alloc _
  have hb2:(w.heap.size+1+1)≤w9.heap.size:=by have:=HF9.out.bl.lt 1 rfl;omega
  exact⟨by rw[hw12];exact (HF9.out.ext hx11).push _ _ hgI.symm,hx12.xt,hb2,hoS.ext hx12',hoG.ext hx12',HV9.out.xt (q:=p) hx12.xt (by omega),HWF.out,by omega⟩⟩
 have HGS:Bx (gS<w9.heap.size):=⟨HF9.out.bl.lt 2 rfl⟩
 have HNS:=zZ hnS;have HNG:=zZ hnG;rw[←hw12,←hgI];clear hw12 hgI htt hnS hnG hoS hoG hx11 hl9 HC9 HF9 HV9 z0 z1 z2 z3 HOK;rcases xW n with hn0|hn0
 ·have hnb:((n:Int)==0)=true:=by simp[hn0]
  have HFIN:=zZ HSW.out.fin;go_upto_region 13 with (fail)
  refine zR 3 (fun w'=>Bk w' gS #[A B s.num,C AP s.pap.length cP,C AB s.bk.length cB,C AX s.xp.length cX] 27∧Bk w' gI #[C AS nS cs',C AG nG cg'] 31) ?_;have kS:(fun w'=>Bk w' gS #[A B s.num,C AP s.pap.length cP,C AB s.bk.length cB,C AX s.xp.length cX] 27∧Bk w' gI #[C AS nS cs',C AG nG cg'] 31) w12.drew:=⟨(HFIN.out.fr.at_ 2 rfl).ext ((zE _).drew),(HFIN.out.fr.at_ 3 rfl).ext ((zE _).drew)⟩
  have kD:ab w12 w12.drew:=(zE _).drew;obtain⟨wz,hwz⟩:=nm (w12.drew:World);rw[←hwz]at kS kD⊢;clear hwz;have HFz:=zZ (HFIN.out.ext kD);refine zS 2 [(0,63),(1,64)] kS ?_;iterate 2 (apply zT;exact⟨rfl,rfl⟩;(·intro wk hk;have z0:=hk.1.c 0 rfl;have z1:=hk.1.c 1 rfl;have z2:=hk.1.c 2 rfl;have z3:=hk.1.c 3 rfl;have j0:=hk.2.c 0 rfl;have j1:=hk.2.c 1 rfl;go_simp;try with_reducible rfl);simp only[kA];exact rfl)
  refine zN (zO 2 (fun K hK=>?_));obtain⟨r0,r1,r2,r3⟩:=(HFz.out.fr.at_ 0 rfl).p4 rfl;have f0:=(HFz.out.fr.at_ 0 rfl).froz;have f1:=f0;have f2:=f0;have f3:=f0;go_simp;have hF1:=HFz.out.fr.setAll 0 rfl [A B s.num,C AP s.pap.length cP,C AB s.bk.length cB,C AX s.xp.length cX] rfl;simp only[cZ,Nat.reduceAdd,yV]at hF1;have kS1:=yX (hF1.at_ 2 rfl) (hF1.at_ 3 rfl);clear r0 r1 r2 r3 f0 f1 f2 f3;refine hK.out _ _ (fun _=>kS1) ?_;clear hK K;try simp only[kA]
  refine zO 3 (fun K hK=>?_);obtain⟨r0,r1⟩:=(hF1.at_ 1 rfl).p2 rfl;have f0:=(hF1.at_ 1 rfl).froz;have f1:=f0;go_simp;refine hK.out _ _ (fun h=>absurd rfl h) ?_;clear hK K;refine zD ?_;clear kS1 r0 r1 f0 f1;have hF2:=hF1.setAll 1 rfl [C AS nS cs',C AG nG cg'] rfl;simp only[cZ,Nat.reduceAdd,yV]at hF2;go_wp2_with fail;obtain⟨q0,q1,q2,q3⟩:=(hF2.at_ 0 rfl).p4 rfl;have z0:=(hF2.at_ 0 rfl).froz;have z1:=z0;have z2:=z0;have z3:=z0;obtain⟨q4,q5⟩:=(hF2.at_ 1 rfl).p2 rfl;have z4:=(hF2.at_ 1 rfl).froz;have z5:=z4;refine bodyPost_ret (v:=.tuple #[.agg #[A B s.num,C AP s.pap.length cP,C AB s.bk.length cB,C AX s.xp.length cX],.agg #[C AS nS cs',C AG nG cg']]) (by simp[results,results8,go_sem,q0,q1,q2,q3,q4,q5,z0,z1,z2,z3,z4,z5]) rfl ?_;exact HFz.out.done (n:=n) (fun _=>HACC.out)
 ·have hnb:((n:Int)==0)=false:=by simp;omega
  have hn1:n≠0:=by omega
  go_upto_if 62 with (go_at_call 31;refine (dR p (n:Int) _ HSW.out.fr.tp (by omega) (by omega)).mono ?_;rintro e w13 ⟨v13,rfl,⟨b,rfl⟩,HT13,HX13⟩;have HS13:=zZ (HSW.out.step HX13 HT13);clear HT13 HX13)
  cases b with
  |false =>
   have HFIN:=zZ HS13.out.fin;go_upto_region 13 with (fail)
   refine zR 3 (fun w'=>Bk w' gS #[A B s.num,C AP s.pap.length cP,C AB s.bk.length cB,C AX s.xp.length cX] 27∧Bk w' gI #[C AS nS cs',C AG nG cg'] 31) ?_;have kS:(fun w'=>Bk w' gS #[A B s.num,C AP s.pap.length cP,C AB s.bk.length cB,C AX s.xp.length cX] 27∧Bk w' gI #[C AS nS cs',C AG nG cg'] 31) w13.drew:=⟨(HFIN.out.fr.at_ 2 rfl).ext ((zE _).drew),(HFIN.out.fr.at_ 3 rfl).ext ((zE _).drew)⟩
   have kD:ab w13 w13.drew:=(zE _).drew;obtain⟨wz,hwz⟩:=nm (w13.drew:World);rw[←hwz]at kS kD⊢;clear hwz;have HFz:=zZ (HFIN.out.ext kD);refine zS 2 [(0,63),(1,64)] kS ?_;iterate 2 (apply zT;exact⟨rfl,rfl⟩;(·intro wk hk;have z0:=hk.1.c 0 rfl;have z1:=hk.1.c 1 rfl;have z2:=hk.1.c 2 rfl;have z3:=hk.1.c 3 rfl;have j0:=hk.2.c 0 rfl;have j1:=hk.2.c 1 rfl;go_simp;try with_reducible rfl);simp only[kA];exact rfl)
   refine zN (zO 2 (fun K hK=>?_));obtain⟨r0,r1,r2,r3⟩:=(HFz.out.fr.at_ 0 rfl).p4 rfl;have f0:=(HFz.out.fr.at_ 0 rfl).froz;have f1:=f0;have f2:=f0;have f3:=f0;go_simp;have hF1:=HFz.out.fr.setAll 0 rfl [A B s.num,C AP s.pap.length cP,C AB s.bk.length cB,C AX s.xp.length cX] rfl;simp only[cZ,Nat.reduceAdd,yV]at hF1;have kS1:=yX (hF1.at_ 2 rfl) (hF1.at_ 3 rfl);clear r0 r1 r2 r3 f0 f1 f2 f3;refine hK.out _ _ (fun _=>kS1) ?_;clear hK K;try simp only[kA]
   refine zO 3 (fun K hK=>?_);obtain⟨r0,r1⟩:=(hF1.at_ 1 rfl).p2 rfl;have f0:=(hF1.at_ 1 rfl).froz;have f1:=f0;go_simp;refine hK.out _ _ (fun h=>absurd rfl h) ?_;clear hK K;refine zD ?_;clear kS1 r0 r1 f0 f1;have hF2:=hF1.setAll 1 rfl [C AS nS cs',C AG nG cg'] rfl;simp only[cZ,Nat.reduceAdd,yV]at hF2;go_wp2_with fail;obtain⟨q0,q1,q2,q3⟩:=(hF2.at_ 0 rfl).p4 rfl;have z0:=(hF2.at_ 0 rfl).froz;have z1:=z0;have z2:=z0;have z3:=z0;obtain⟨q4,q5⟩:=(hF2.at_ 1 rfl).p2 rfl;have z4:=(hF2.at_ 1 rfl).froz;have z5:=z4;refine bodyPost_ret (v:=.tuple #[.agg #[A B s.num,C AP s.pap.length cP,C AB s.bk.length cB,C AX s.xp.length cX],.agg #[C AS nS cs',C AG nG cg']]) (by simp[results,results8,go_sem,q0,q1,q2,q3,q4,q5,z0,z1,z2,z3,z4,z5]) rfl ?_;exact HFz.out.done (n:=n) (fun h=>absurd h (by omega))
  |true =>
   go_upto_block 2 with (go_at_call 18;refine (au p 7 _ HS13.out.fr.tp (by omega)).mono ?_;rintro e w14 ⟨v14,rfl,⟨r,rfl,hr1,hr2⟩,HT14,HX14⟩;have HS:=zZ (HS13.out.step HX14 HT14);clear HT14 HX14 HS13)
   have hr3:r<7:=by omega
   clear hr2;obtain⟨bw,hbw⟩:=nm w9.heap.size;go_cut [] (fun wx=>∃(s':aZ) (B1 B2 B3:Option Addr) (d1 d2 d3:Nat) (A1:Option Addr) (n1 e1:Nat) (A2:Option Addr) (n2 e2:Nat) (sts:List aY) (nn:Nat),Bx (lO p gS gI bw w wx #[A B s'.num,C B1 s'.pap.length d1,C B2 s'.bk.length d2,C B3 s'.xp.length d3] (C A1 n1 e1) (C A2 n2 e2) s' sts nn))
   case first =>
    have HF:=zZ HS.out.fin;rw[←hbw]at HF;obtain⟨j0,j1⟩:=(HF.out.fr.at_ 3 rfl).p2 rfl;have f0:=(HF.out.fr.at_ 3 rfl).froz;have f1:=f0;rcases (show r=0∨r=1∨r=2∨r=3∨r=4∨r=5∨r=6 by omega) with rfl|rfl|rfl|rfl|rfl|rfl|rfl
    ·by_cases h0:0<nG
     ·have hd:=HF.out.gs;rw[←HNG.out]at hd;have HD:=zZ (hd.drop (k:=1) (by omega));have HL:=zZ HF.out.len.2;rw[←HNG.out]at HL;clear hd;have HL2:=zZ (show nG-1≤1000 by have:=HL.out;omega);go_wp2_with fail
      ·go_meet
       have hd:=HD.out;rw[if_pos (show cg'=1 by first|assumption|omega),show cg'-1=0 by omega]at hd;exact⟨s,AP,AB,AX,cP,cB,cX,AS,nS,cs',_,_,_,_,_,⟨HF.out.setG hd HL2.out⟩⟩
      ·go_meet
       have hd:=HD.out;rw[if_neg (show ¬cg'=1 by first|assumption|omega)]at hd;exact⟨s,AP,AB,AX,cP,cB,cX,AS,nS,cs',_,_,_,_,_,⟨HF.out.setG hd HL2.out⟩⟩
     ·have h1:nG=0:=by omega
      go_wp2_with fail;go_meet
      exact⟨s,AP,AB,AX,cP,cB,cX,AS,nS,cs',AG,nG,cg',_,_,⟨HF.out⟩⟩
    ·by_cases h0:0<nS
     ·as_aux_lemma =>
       obtain⟨gs,cur,rfl,hgs,-⟩:=HS.out.st.row h0;clear hgs;go_upto_region 21 with (fail)
       clear j0 j1 f0 f1;refine zR 11 (fun w'=>Bk w' gI #[C (some ⟨gs,0,none⟩) nS cs',C AG nG cg'] 31) ?_;have kS:(fun w'=>Bk w' gI #[C (some ⟨gs,0,none⟩) nS cs',C AG nG cg'] 31) w14.drew:=(HS.out.fr.at_ 3 rfl).ext ((zE _).drew);have kD:ab w14 w14.drew:=(zE _).drew;obtain⟨w15,hw15⟩:=nm (w14.drew:World);rw[←hw15]at kS kD⊢;clear hw15;have HS15:=zZ (HS.out.ext kD);refine zS 7 [(0,85),(1,86),(2,87),(3,88),(4,89),(5,90),(7,92)] kS ?_;iterate 7 (apply zT;exact⟨rfl,rfl⟩;(·intro wk hk;have j0:=hk.c 0 rfl;go_simp;try with_reducible rfl);simp only[kA];exact rfl)
       refine zN (zO 6 (fun K hK=>?_));go_simp;refine (au p (nS:Int) _ HS15.out.fr.tp (by omega)).mono ?_;rintro e w16 ⟨v16,rfl,⟨r2,rfl,hq1,hq2⟩,HT16,HX16⟩;have HS16:=zZ (HS15.out.step HX16 HT16);have kS2:=HS16.out.fr.at_ 3 rfl;clear HT16 HX16 HS15;obtain⟨k,rfl⟩:=zG hq1;have hkn:k<nS:=by omega
       clear hq1 hq2;refine hK.out _ _ (fun _=>kS2) ?_;clear hK K;try simp only[kA]
       refine zO 8 (fun K hK=>?_);go_simp;refine (am p 0 7 _ HS16.out.fr.tp (by omega) (by omega) (by omega) (by omega)).mono ?_;rintro e w17 ⟨v17,rfl,⟨y,rfl,hy1,hy2⟩,HT17,HX17⟩;have HS17:=zZ (HS16.out.step HX17 HT17);have kS3:=HS17.out.fr.at_ 3 rfl;clear HT17 HX17 HS16;refine hK.out _ _ (fun _=>kS3) ?_;clear hK K;try simp only[kA]
       obtain⟨g',cur2,e1,hge,hbk⟩:=HS17.out.st.row h0;cases e1;have hx00:∃z,tt.sts[k]?=some z:=⟨_,zW (by rw[←HNS.out];exact hkn)⟩
       obtain⟨vc,z1⟩:∃v,w17.cell? ⟨gs,k*7+2,none⟩=some v:=by obtain⟨x0,hx0⟩:=hx00;obtain⟨A',c',hv,-,-,h4⟩:=(Br.of_own HS17.out.st HS17.out.lt).1;obtain⟨b',off',cs2,ha,-,-,hcell,hr⟩:=h4 k x0 hx0;obtain⟨rfl,-⟩:=hr;injection hv with e1 _ _;rw[ha]at e1;cases e1;exact⟨_,by simpa using hcell 2 (A B x0.state) rfl⟩
       have HX0:=zZ hx00;clear hx00;have z0:=hbk.froz;refine zO 9 (fun K hK=>?_);go_simp;refine hK.out _ _ (fun _=>kS3) ?_;clear hK K;try simp only[kA]
       refine zO 10 (fun K hK=>?_);go_simp;refine hK.out _ _ (fun _=>kS3) ?_;clear hK K;try simp only[kA]
       refine zO 11 (fun K hK=>?_);go_simp;refine hK.out _ _ (fun h=>absurd rfl h) ?_;clear hK K;refine zD ?_;clear kS3;go_wp2_with fail;go_meet
       obtain⟨x0,hx0⟩:=HX0.out;have hfin:=(HS17.out.setSt hbk hge hkn (j:=2) (by decide) (x':={ x0 with state:=y }) (fun csx x hx hr=>by rw[hx0]at hx;cases hx;obtain⟨rfl,hw⟩:=hr;exact⟨rfl,hw.1,(⟨by omega,by omega⟩:aC y),hw.2.2⟩)).fin
       rw[←hbw]at hfin;exact⟨s,AP,AB,AX,cP,cB,cX,some ⟨gs,0,none⟩,nS,cs',AG,nG,cg',_,_,⟨hfin⟩⟩
     ·have h1:nS=0:=by omega
      go_wp2_with fail;go_meet
      exact⟨s,AP,AB,AX,cP,cB,cX,AS,nS,cs',AG,nG,cg',_,_,⟨HF.out⟩⟩
    ·by_cases h0:0<nS
     ·as_aux_lemma =>
       obtain⟨gs,cur,rfl,hgs,-⟩:=HS.out.st.row h0;clear hgs;go_upto_region 24 with (fail)
       clear j0 j1 f0 f1;refine zR 12 (fun w'=>Bk w' gI #[C (some ⟨gs,0,none⟩) nS cs',C AG nG cg'] 31) ?_;have kS:(fun w'=>Bk w' gI #[C (some ⟨gs,0,none⟩) nS cs',C AG nG cg'] 31) w14.drew:=(HS.out.fr.at_ 3 rfl).ext ((zE _).drew);have kD:ab w14 w14.drew:=(zE _).drew;obtain⟨w15,hw15⟩:=nm (w14.drew:World);rw[←hw15]at kS kD⊢;clear hw15;have HS15:=zZ (HS.out.ext kD);refine zS 7 [(0,102),(1,103),(2,104),(3,105),(4,106),(5,107),(7,109)] kS ?_;iterate 7 (apply zT;exact⟨rfl,rfl⟩;(·intro wk hk;have j0:=hk.c 0 rfl;go_simp;try with_reducible rfl);simp only[kA];exact rfl)
       refine zN (zO 6 (fun K hK=>?_));go_simp;refine (au p (nS:Int) _ HS15.out.fr.tp (by omega)).mono ?_;rintro e w16 ⟨v16,rfl,⟨r2,rfl,hq1,hq2⟩,HT16,HX16⟩;have HS16:=zZ (HS15.out.step HX16 HT16);have kS2:=HS16.out.fr.at_ 3 rfl;clear HT16 HX16 HS15;obtain⟨k,rfl⟩:=zG hq1;have hkn:k<nS:=by omega
       clear hq1 hq2;refine hK.out _ _ (fun _=>kS2) ?_;clear hK K;try simp only[kA]
       refine zO 8 (fun K hK=>?_);go_simp;refine (am p (-1) 40 _ HS16.out.fr.tp (by omega) (by omega) (by omega) (by omega)).mono ?_;rintro e w17 ⟨v17,rfl,⟨y,rfl,hy1,hy2⟩,HT17,HX17⟩;have HS17:=zZ (HS16.out.step HX17 HT17);have kS3:=HS17.out.fr.at_ 3 rfl;clear HT17 HX17 HS16;refine hK.out _ _ (fun _=>kS3) ?_;clear hK K;try simp only[kA]
       obtain⟨g',cur2,e1,hge,hbk⟩:=HS17.out.st.row h0;cases e1;have hx00:∃z,tt.sts[k]?=some z:=⟨_,zW (by rw[←HNS.out];exact hkn)⟩
       obtain⟨vc,z1⟩:∃v,w17.cell? ⟨gs,k*7+5,none⟩=some v:=by obtain⟨x0,hx0⟩:=hx00;obtain⟨A',c',hv,-,-,h4⟩:=(Br.of_own HS17.out.st HS17.out.lt).1;obtain⟨b',off',cs2,ha,-,-,hcell,hr⟩:=h4 k x0 hx0;obtain⟨rfl,-⟩:=hr;injection hv with e1 _ _;rw[ha]at e1;cases e1;exact⟨_,by simpa using hcell 5 (A B x0.lab.g) rfl⟩
       have HX0:=zZ hx00;clear hx00;have z0:=hbk.froz;refine zO 9 (fun K hK=>?_);go_simp;refine hK.out _ _ (fun _=>kS3) ?_;clear hK K;try simp only[kA]
       refine zO 10 (fun K hK=>?_);go_simp;refine hK.out _ _ (fun _=>kS3) ?_;clear hK K;try simp only[kA]
       refine zO 11 (fun K hK=>?_);go_simp;refine hK.out _ _ (fun _=>kS3) ?_;clear hK K;try simp only[kA]
       refine zO 12 (fun K hK=>?_);go_simp;refine hK.out _ _ (fun h=>absurd rfl h) ?_;clear hK K;refine zD ?_;clear kS3;go_wp2_with fail;go_meet
       obtain⟨x0,hx0⟩:=HX0.out;have hfin:=(HS17.out.setSt hbk hge hkn (j:=5) (by decide) (x':={ x0 with lab:={ x0.lab with g:=y } }) (fun csx x hx hr=>by rw[hx0]at hx;cases hx;obtain⟨rfl,hw⟩:=hr;exact⟨rfl,hw.1,hw.2.1,hw.2.2.1,hw.2.2.2.1,(⟨by omega,by omega⟩:aC y),hw.2.2.2.2.2⟩)).fin
       rw[←hbw]at hfin;exact⟨s,AP,AB,AX,cP,cB,cX,some ⟨gs,0,none⟩,nS,cs',AG,nG,cg',_,_,⟨hfin⟩⟩
     ·have h1:nS=0:=by omega
      go_wp2_with fail;go_meet
      exact⟨s,AP,AB,AX,cP,cB,cX,AS,nS,cs',AG,nG,cg',_,_,⟨HF.out⟩⟩
    ·by_cases h0:0<nG
     ·as_aux_lemma =>
       obtain⟨gs,cur,rfl,hgs,-⟩:=HS.out.pg.row h0;clear hgs;go_upto_region 27 with (fail)
       clear j0 j1 f0 f1;refine zR 17 (fun w'=>Bk w' gI #[C AS nS cs',C (some ⟨gs,0,none⟩) nG cg'] 31) ?_;have kS:(fun w'=>Bk w' gI #[C AS nS cs',C (some ⟨gs,0,none⟩) nG cg'] 31) w14.drew:=(HS.out.fr.at_ 3 rfl).ext ((zE _).drew);have kD:ab w14 w14.drew:=(zE _).drew;obtain⟨w15,hw15⟩:=nm (w14.drew:World);rw[←hw15]at kS kD⊢;clear hw15;have HS15:=zZ (HS.out.ext kD);refine zS 7 [(0,120),(1,121),(2,122),(3,123),(4,124),(5,125),(11,131)] kS ?_;iterate 7 (apply zT;exact⟨rfl,rfl⟩;(·intro wk hk;(try have j1:=hk.c 1 rfl);(try have j1:=hk.1.c 1 rfl);(try have z1:=hk.2);go_simp;try with_reducible rfl);simp only[kA];exact rfl)
       refine zN (zO 6 (fun K hK=>?_));go_simp;refine (au p (nG:Int) _ HS15.out.fr.tp (by omega)).mono ?_;rintro e w16 ⟨v16,rfl,⟨r2,rfl,hq1,hq2⟩,HT16,HX16⟩;have HS16:=zZ (HS15.out.step HX16 HT16);have kS2:=HS16.out.fr.at_ 3 rfl;clear HT16 HX16 HS15;obtain⟨k,rfl⟩:=zG hq1;have hkn:k<nG:=by omega
       clear hq1 hq2;refine hK.out _ _ (fun _=>kS2) ?_;clear hK K;try simp only[kA]
       have hx00:∃z,tt.pgs[k]?=some z:=⟨_,zW (by rw[←HNG.out];exact hkn)⟩
       obtain⟨x0,hx0⟩:=hx00;have hcell5:∀wy,ni p gS gI w w9 wy #[A B s.num,C AP s.pap.length cP,C AB s.bk.length cB,C AX s.xp.length cX] (C AS nS cs') (C (some ⟨gs,0,none⟩) nG cg') s tt→wy.cell? ⟨gs,k*6+5,none⟩=some (A B x0.scan.q):=fun wy hy=>by obtain⟨A',c',hv,-,-,h4⟩:=hy.pg.isS (p:=p) (R':=fun _ cs x=>j3 p w9 cs x) (by decide) hy.lt (fun cs x hr=>hr);obtain⟨b',off',cs2,ha,-,-,hcell,u,rfl,-,-⟩:=h4 k x0 hx0;injection hv with e1 _ _;rw[ha]at e1;cases e1;simpa using hcell 5 (A B x0.scan.q) rfl
       have HX0:=zZ hx0;have HC5:=zZ hcell5;clear hx0 hcell5;have z1:=HC5.out _ HS16.out;obtain⟨q5,hq5⟩:=nm x0.scan.q;have HQ5:=zZ hq5;rw[←hq5]at z1;clear hq5;refine gZ (S':=(fun w'=>Bk w' gI #[C AS nS cs',C (some ⟨gs,0,none⟩) nG cg'] 31∧w'.cell? ⟨gs,k*6+5,none⟩=some (A B q5))) (fun _ h=>h.1) _ _ _ _ ?_;have kS3:=yX kS2 z1;clear z1;refine zS 4 [(7,127),(8,128),(9,129),(10,130)] kS3 ?_;iterate 4 (apply zT;exact⟨rfl,rfl⟩;(·intro wk hk;(try have j1:=hk.c 1 rfl);(try have j1:=hk.1.c 1 rfl);(try have z1:=hk.2);go_simp;try with_reducible rfl);simp only[kA];exact rfl)
       refine zN (zO 12 (fun K hK=>?_));go_simp;refine (au p 2 _ HS16.out.fr.tp (by omega)).mono ?_;rintro e w17 ⟨v17,rfl,⟨y,rfl,hy1,hy2⟩,HT17,HX17⟩;have HS17:=zZ (HS16.out.step HX17 HT17);have kS4:=yX (HS17.out.fr.at_ 3 rfl) (show w17.cell? ⟨gs,k*6+5,none⟩=some (A B q5) by rw[HQ5.out];exact HC5.out _ HS17.out);clear HT17 HX17 HS16 kS2 kS3;refine hK.out _ _ (fun _=>kS4) ?_;clear hK K;try simp only[kA]
       obtain⟨u5,hu5⟩:=nm (IntKind.i64.wrap (q5+y));have HU5:=zZ (show aC u5 by rw[hu5];exact CL _);refine zS 1 [(13,133)] kS4 ?_;(apply zT;exact⟨rfl,rfl⟩;(·intro wk hk;(try have j1:=hk.c 1 rfl);(try have j1:=hk.1.c 1 rfl);(try have z1:=hk.2);go_simp;try with_reducible rfl);simp only[kA];exact rfl);refine zN ?_;rw[←hu5];have HUE:=zZ hu5;clear hu5;refine zO 14 (fun K hK=>?_);go_simp;refine hK.out _ _ (fun _=>kS4) ?_;clear hK K;try simp only[kA]
       refine zO 15 (fun K hK=>?_);go_simp;refine hK.out _ _ (fun _=>kS4) ?_;clear hK K;try simp only[kA]
       refine zO 16 (fun K hK=>?_);go_simp;refine hK.out _ _ (fun _=>kS4) ?_;clear hK K;try simp only[kA]
       obtain⟨g',cur2,e1,hge,hbk⟩:=HS17.out.pg.row h0;cases e1;have z0:=hbk.froz;have z1:=kS4.2;refine zO 17 (fun K hK=>?_);go_simp;refine hK.out _ _ (fun h=>absurd rfl h) ?_;clear hK K;refine zD ?_;clear kS4;go_wp2_with fail;go_meet
       have hfin:=(HS17.out.setPg hbk hge hkn (j:=5) (u:=A B u5) (by decide) (x':={ x0 with scan:=⟨x0.scan.s,u5⟩ }) (fun csx x hx hr=>by rw[HX0.out]at hx;cases hx;obtain⟨u,rfl,hi,hw⟩:=hr;exact⟨u,rfl,hi,hw.1,hw.2.1,hw.2.2.1,⟨hw.2.2.2.1.1,HU5.out⟩,hw.2.2.2.2⟩)).fin
       rw[←hbw]at hfin;exact⟨s,AP,AB,AX,cP,cB,cX,AS,nS,cs',some ⟨gs,0,none⟩,nG,cg',_,_,⟨hfin⟩⟩
     ·have h1:nG=0:=by omega
      go_wp2_with fail;go_meet
      exact⟨s,AP,AB,AX,cP,cB,cX,AS,nS,cs',AG,nG,cg',_,_,⟨HF.out⟩⟩
    ·by_cases h0:0<nS
     ·focus
       obtain⟨iC,hiC,hC0,hC1,hC2⟩:=info_parts Tryz.infoSst;obtain⟨gs,cur,rfl,hgs,-⟩:=HS.out.st.row h0;clear hgs;have hx00:∃z,tt.sts[0]?=some z:=⟨_,zW (by rw[←HNS.out];exact h0)⟩
       obtain⟨⟨⟨xs,xq⟩,xt,⟨xa,xb,xc,xd⟩⟩,hx0⟩:=hx00;obtain⟨hwf,hcells⟩:aY.wf ⟨⟨xs,xq⟩,xt,⟨xa,xb,xc,xd⟩⟩∧∀(j:Nat) z,(aY.cells ⟨⟨xs,xq⟩,xt,⟨xa,xb,xc,xd⟩⟩)[j]?=some z→w14.cell? ⟨gs,j,none⟩=some z:=by obtain⟨A',c',hv,-,-,h4⟩:=(Br.of_own HS.out.st HS.out.lt).1;obtain⟨b',off',cs2,ha,-,-,hcell,rfl,hw⟩:=h4 0 _ hx0;injection hv with e1 _ _;rw[ha]at e1;cases e1;exact⟨hw,fun j z hz=>by simpa using hcell j z hz⟩
       have HX0:=zZ hx0;have HWX:=zZ hwf;have y0:=hcells 0 _ rfl;have y1:=hcells 1 _ rfl;have y2:=hcells 2 _ rfl;have y3:=hcells 3 _ rfl;have y4:=hcells 4 _ rfl;have y5:=hcells 5 _ rfl;have y6:=hcells 6 _ rfl;simp only at y0 y1 y2 y3 y4 y5 y6;clear hx0 hwf hcells;go_upto_region 30 with (fail)
       have U0:=And.intro j0 (And.intro y0 (And.intro y1 (And.intro y2 (And.intro y3 (And.intro y4 (And.intro y5 y6))))));clear j0 j1 f0 f1 y0 y1 y2 y3 y4 y5 y6;refine mM (nH 6 (fun w'=>w'.cell? ⟨gs,0,none⟩=some (A B xs)∧w'.cell? ⟨gs,1,none⟩=some (A B xq)∧w'.cell? ⟨gs,2,none⟩=some (A B xt)∧w'.cell? ⟨gs,3,none⟩=some (A B xa)∧w'.cell? ⟨gs,4,none⟩=some (A B xb)∧w'.cell? ⟨gs,5,none⟩=some (A B xc)∧w'.cell? ⟨gs,6,none⟩=some (A B xd)) 9 (fun w'=>w'.cell? ⟨gI,0,none⟩=some (C (some ⟨gs,0,none⟩) nS cs'))) (by kernel_rfl) ?_;have hxd:ab w14 w14.drew:=(zE _).drew;obtain⟨w15,hw15⟩:=nm w14.drew;rw[←hw15]at hxd⊢;clear hw15;have HS15:=Lib.hid (HS.out.ext hxd);have U1:=And.intro (hxd.cell U0.1) (And.intro (hxd.cell U0.2.1) (And.intro (hxd.cell U0.2.2.1) (And.intro (hxd.cell U0.2.2.2.1) (And.intro (hxd.cell U0.2.2.2.2.1) (And.intro (hxd.cell U0.2.2.2.2.2.1) (And.intro (hxd.cell U0.2.2.2.2.2.2.1) (hxd.cell U0.2.2.2.2.2.2.2)))))));refine aG _ 9 0 (some 143) (v:=?kv1) rfl rfl (by kernel_rfl) (by kernel_rfl) (by kernel_rfl) (by kernel_rfl) (by kernel_rfl) (fun _ _ _ h=>h) (by rfl) (fun _ _ h hs=>hs.2 h) (nH.put (by decide) (by decide)) ?ky1 (⟨fun _=>U1.2,fun _=>U1.1⟩) ?kr1;case ky1=>((intro wk hk);(try dsimp only at hk);go_simp;try with_reducible rfl)
       try simp only[kA]
       refine aG _ 9 1 (some 144) (v:=?kv2) rfl rfl (by kernel_rfl) (by kernel_rfl) (by kernel_rfl) (by kernel_rfl) (by kernel_rfl) (fun _ _ _ h=>h) (by rfl) (fun _ _ h hs=>hs.2 h) (nH.put (by decide) (by decide)) ?ky2 (⟨fun _=>U1.2,fun _=>U1.1⟩) ?kr2;case ky2=>((intro wk hk);(try dsimp only at hk);go_simp;try with_reducible rfl)
       try simp only[kA]
       refine aG _ 9 2 (some 145) (v:=?kv3) rfl rfl (by kernel_rfl) (by kernel_rfl) (by kernel_rfl) (by kernel_rfl) (by kernel_rfl) (fun _ _ _ h=>h) (by rfl) (fun _ _ h hs=>hs.2 h) (nH.put (by decide) (by decide)) ?ky3 (⟨fun _=>U1.2,fun _=>U1.1⟩) ?kr3;case ky3=>((intro wk hk);(try dsimp only at hk);go_simp;try with_reducible rfl)
       try simp only[kA]
       refine aG _ 9 3 (some 146) (v:=?kv4) rfl rfl (by kernel_rfl) (by kernel_rfl) (by kernel_rfl) (by kernel_rfl) (by kernel_rfl) (fun _ _ _ h=>h) (by rfl) (fun _ _ h hs=>hs.2 h) (nH.put (by decide) (by decide)) ?ky4 (⟨fun _=>U1.2,fun _=>U1.1⟩) ?kr4;case ky4=>((intro wk hk);(try dsimp only at hk);go_simp;try with_reducible rfl)
       try simp only[kA]
       refine aG _ 9 4 (some 147) (v:=?kv5) rfl rfl (by kernel_rfl) (by kernel_rfl) (by kernel_rfl) (by kernel_rfl) (by kernel_rfl) (fun _ _ _ h=>h) (by rfl) (fun _ _ h hs=>hs.2 h) (nH.put (by decide) (by decide)) ?ky5 (⟨fun _=>U1.2,fun _=>U1.1⟩) ?kr5;case ky5=>((intro wk hk);(try dsimp only at hk);go_simp;try with_reducible rfl)
       try simp only[kA]
       refine aG _ 6 5 (some 148) (v:=?kv6) rfl rfl (by kernel_rfl) (by kernel_rfl) (by kernel_rfl) (by kernel_rfl) (by kernel_rfl) (fun _ _ _ h=>h) (by rfl) (fun _ _ h hs=>hs.1 h) (nH.put (by decide) (by decide)) ?ky6 (⟨fun _=>U1.2,fun _=>U1.1⟩) ?kr6;case ky6=>((intro wk hk);(try dsimp only at hk);go_simp;try with_reducible rfl)
       try simp only[kA]
       refine aM 6 (by kernel_rfl) rfl (fun K hK=>?_);go_simp;obtain⟨gp,hgp⟩:=nm w15.heap.size;obtain⟨w16,hw16⟩:=nm ((w15.alloc (.cells #[A B xs,A B xq,A B xt,A B xa,A B xb,A B xc,A B xd] 75)):World);have hx16:ab w15 w16:=by rw[hw16];exact (zE _).alloc _
       have B16:Bx (Bk w16 gp #[A B xs,A B xq,A B xt,A B xa,A B xb,A B xc,A B xd] 75):=⟨by rw[hw16,hgp];exact Bk.new _ _ _⟩
       have HS16:=zZ (HS15.out.ext hx16);have U2:=yX (hx16.cell U1.1) (yX (hx16.cell U1.2.1) (yX (hx16.cell U1.2.2.1) (yX (hx16.cell U1.2.2.2.1) (yX (hx16.cell U1.2.2.2.2.1) (yX (hx16.cell U1.2.2.2.2.2.1) (yX (hx16.cell U1.2.2.2.2.2.2.1) (hx16.cell U1.2.2.2.2.2.2.2)))))));rw[←hw16,←hgp];clear hw16 hgp hx16 hxd U0 U1 HS15;refine hK.out _ _ (⟨dV (by kernel_rfl),fun _=>U2.1⟩) ?_;clear hK K;try simp only[kA]
       refine aM 7 (by kernel_rfl) rfl (fun K hK=>?_);refine ku (by rfl) _ _ _ (by rfl) w9.heap.size 75 iC _ 7 56 underlying28 hiC hC0 hC1 hC2 rfl (by omega) (cQ w9) (some ⟨gs,0,none⟩) nS cs' tt.sts (by rfl) HNS.out.symm HS16.out.st gp [A B xs,A B xq,A B xt,A B xa,A B xb,A B xc,A B xd] ⟨⟨xs,xq⟩,xt,⟨xa,xb,xc,xd⟩⟩ (by rfl) (World.news_of_block B16.out) rfl (by simp[Value.oneCell']) ⟨rfl,HWX.out⟩ (by omega) (by omega) HS16.out.x.size ?_;intro g7 c7 w17 hown7 hg7;have hfr:=HS16.out.frPush hg7;have hpush:=HS16.out.pushSt hown7 hg7;have j0:=(hfr.at_ 3 rfl).c 0 rfl;have f0:=(hfr.at_ 3 rfl).froz;change K (Act.put _ (some 150) _) w17;refine hK.out _ _ (⟨dV (by kernel_rfl),fun _=>j0⟩) ?_;clear hK K;try simp only[kA]
       refine aM 8 (by kernel_rfl) rfl (fun K hK=>?_);go_simp;refine hK.out _ _ (⟨dV (by kernel_rfl),fun _=>j0⟩) ?_;clear hK K;try simp only[kA]
       refine aM 9 (by kernel_rfl) rfl (fun K hK=>?_);go_simp;refine hK.out _ _ (⟨dV (by kernel_rfl),dV (by kernel_rfl)⟩) ?_;clear hK K;refine gG (by kernel_rfl) ?_ _;go_wp2_with fail;go_meet
       have hfin:=hpush;rw[←hbw]at hfin;exact⟨s,AP,AB,AX,cP,cB,cX,some ⟨g7,0,none⟩,nS+1,c7,AG,nG,cg',_,_,⟨hfin⟩⟩
     ·have h1:nS=0:=by omega
      go_wp2_with fail;go_meet
      exact⟨s,AP,AB,AX,cP,cB,cX,AS,nS,cs',AG,nG,cg',_,_,⟨HF.out⟩⟩
    ·focus
      obtain⟨iC,hiC,hC0,hC1,hC2⟩:=info_parts Tryz.infoSst;go_upto_region 32 with (fail)
      clear j0 j1 f0 f1;refine zR 13 (fun w'=>Bk w' gI #[C AS nS cs',C AG nG cg'] 31) ?_;have kS:(fun w'=>Bk w' gI #[C AS nS cs',C AG nG cg'] 31) w14.drew:=(HS.out.fr.at_ 3 rfl).ext ((zE _).drew);have kD:ab w14 w14.drew:=(zE _).drew;obtain⟨w15,hw15⟩:=nm (w14.drew:World);rw[←hw15]at kS kD⊢;clear hw15;have HS15:=zZ (HS.out.ext kD);refine zS 5 [(0,154),(1,155),(2,156),(3,157),(5,159)] kS ?_;iterate 5 (apply zT;exact⟨rfl,rfl⟩;(·intro wk hk;have j0:=hk.c 0 rfl;go_simp;try with_reducible rfl);simp only[kA];exact rfl)
      refine zN (bD 4 6 (by kernel_rfl) rfl rfl (fun K hK=>?_) (fun K hK=>?_))
      ·go_simp;refine (au p 4 _ HS15.out.fr.tp (by omega)).mono ?_;rintro e w16 ⟨v16,rfl,⟨ra,rfl,ha1,ha2⟩,HT16,HX16⟩;have HS16:=zZ (HS15.out.step HX16 HT16);have kHS16:=HS16.out.fr.at_ 3 rfl;clear HT16 HX16;refine hK.out _ _ (fun _=>kHS16) ?_;clear hK K;try simp only[kA]
       clear HS15;refine zO 6 (fun K hK=>?_);go_simp;obtain⟨gp,hgp⟩:=nm w16.heap.size;obtain⟨w17,hw17⟩:=nm ((w16.alloc (.cells #[A B (-5),A B 3,A B 33,A B 1099511627776] 3)):World);have hx17:ab w16 w17:=by rw[hw17];exact (zE _).alloc _
       have HI:Bx (ao p w17 (C (some ⟨gp,0,none⟩) 4 4) [-5,3,33,1099511627776]):=⟨by rw[hw17,hgp];exact ao.lit [-5,3,33,1099511627776] 3 HS16.out.fr.lt (by intro x hx;simp at hx;rcases hx with rfl|rfl|rfl|rfl<;>constructor<;>omega) (by simp)⟩
       have HS17:=zZ (HS16.out.ext hx17);rw[←hw17,←hgp];clear hw17 hgp hx17;have kHS17:=HS17.out.fr.at_ 3 rfl;refine hK.out _ _ (fun _=>kHS17) ?_;clear hK K;try simp only[kA]
       clear HS16 kHS16;refine zO 7 (fun K hK=>?_);go_simp;refine (cn p _ [-5,3,33,1099511627776] _ HS17.out.fr.tp HI.out (by simp)).mono ?_;rintro e w18 ⟨v18,rfl,⟨rb,rfl,hrb⟩,HT18,HX18⟩;have HS18:=zZ (HS17.out.step HX18 HT18);have kHS18:=HS18.out.fr.at_ 3 rfl;have hb64:aC rb:=by simp at hrb;rcases hrb with rfl|rfl|rfl|rfl<;>constructor<;>omega
       have HWX:=zZ (show aY.wf ⟨⟨90,0⟩,3,⟨0,ra,rb,0⟩⟩ from E7 ⟨by omega,by omega⟩ ⟨by omega,by omega⟩ ⟨by omega,by omega⟩ ⟨by omega,by omega⟩ ⟨by omega,by omega⟩ hb64 ⟨by omega,by omega⟩);clear HT18 HX18 HS17 kHS17 HI hrb hb64 ha1 ha2;refine hK.out _ _ (fun _=>kHS18) ?_;clear hK K;try simp only[kA]
       refine zS 2 [(8,162),(9,163)] kHS18 ?_;iterate 2 (apply zT;exact⟨rfl,rfl⟩;(·intro wk hk;have j0:=hk.c 0 rfl;go_simp;try with_reducible rfl);simp only[kA];exact rfl)
       refine zN (zO 10 (fun K hK=>?_));go_simp;obtain⟨gp,hgp⟩:=nm w18.heap.size;obtain⟨w19,hw19⟩:=nm ((w18.alloc (.cells #[A B 90,A B 0,A B 3,A B 0,A B ra,A B rb,A B 0] 75)):World);have hx19:ab w18 w19:=by rw[hw19];exact (zE _).alloc _
       have B19:Bx (Bk w19 gp #[A B 90,A B 0,A B 3,A B 0,A B ra,A B rb,A B 0] 75):=⟨by rw[hw19,hgp];exact Bk.new _ _ _⟩
       have HS19:=zZ (HS18.out.ext hx19);rw[←hw19,←hgp];clear hw19 hgp hx19 HS18 kHS18;have kHS19:=HS19.out.fr.at_ 3 rfl;refine hK.out _ _ (fun _=>kHS19) ?_;clear hK K;try simp only[kA]
       refine zO 11 (fun K hK=>?_);refine ku (by rfl) _ _ _ (by rfl) w9.heap.size 75 iC _ 7 56 underlying28 hiC hC0 hC1 hC2 rfl (by omega) (cQ w9) AS nS cs' tt.sts (by rfl) HNS.out.symm HS19.out.st gp [A B 90,A B 0,A B 3,A B 0,A B ra,A B rb,A B 0] ⟨⟨90,0⟩,3,⟨0,ra,rb,0⟩⟩ (by rfl) (World.news_of_block B19.out) rfl (by simp[Value.oneCell']) ⟨rfl,HWX.out⟩ (by omega) (by omega) HS19.out.x.size ?_;intro g7 c7 w20 hown7 hg7;have hfr:=HS19.out.frPush hg7;have hpush:=HS19.out.pushSt hown7 hg7;have kHS20:=hfr.at_ 3 rfl;have j0:=(hfr.at_ 3 rfl).c 0 rfl;have f0:=(hfr.at_ 3 rfl).froz;change K (Act.put _ (some 165) _) w20;refine hK.out _ _ (fun _=>kHS20) ?_;clear hK K;try simp only[kA]
       refine zO 12 (fun K hK=>?_);go_simp;refine hK.out _ _ (fun _=>kHS20) ?_;clear hK K;try simp only[kA]
       refine zO 13 (fun K hK=>?_);go_simp;refine hK.out _ _ (fun h=>absurd rfl h) ?_;clear hK K;refine zD ?_;go_wp2_with fail;go_meet
       have hfin:=hpush;rw[←hbw]at hfin;exact⟨s,AP,AB,AX,cP,cB,cX,some ⟨g7,0,none⟩,nS+1,c7,AG,nG,cg',_,_,⟨hfin⟩⟩
      ·go_simp;obtain⟨gp,hgp⟩:=nm w15.heap.size;obtain⟨w16,hw16⟩:=nm ((w15.alloc (.cells #[A B (-5),A B 3,A B 33,A B 1099511627776] 3)):World);have hx17:ab w15 w16:=by rw[hw16];exact (zE _).alloc _
       have HI:Bx (ao p w16 (C (some ⟨gp,0,none⟩) 4 4) [-5,3,33,1099511627776]):=⟨by rw[hw16,hgp];exact ao.lit [-5,3,33,1099511627776] 3 HS15.out.fr.lt (by intro x hx;simp at hx;rcases hx with rfl|rfl|rfl|rfl<;>constructor<;>omega) (by simp)⟩
       have HS16:=zZ (HS15.out.ext hx17);rw[←hw16,←hgp];clear hw16 hgp hx17;have kHS16:=HS16.out.fr.at_ 3 rfl;refine hK.out _ _ (fun _=>kHS16) ?_;clear hK K;try simp only[kA]
       clear HS15;refine zO 4 (fun K hK=>?_);go_simp;refine (au p 4 _ HS16.out.fr.tp (by omega)).mono ?_;rintro e w17 ⟨v16,rfl,⟨ra,rfl,ha1,ha2⟩,HT16,HX16⟩;have HS17:=zZ (HS16.out.step HX16 HT16);have kHS17:=HS17.out.fr.at_ 3 rfl;replace HI:=zZ (HI.out.xt HX16);clear HT16 HX16;refine hK.out _ _ (fun _=>kHS17) ?_;clear hK K;try simp only[kA]
       clear HS16 kHS16;refine zO 7 (fun K hK=>?_);go_simp;refine (cn p _ [-5,3,33,1099511627776] _ HS17.out.fr.tp HI.out (by simp)).mono ?_;rintro e w18 ⟨v18,rfl,⟨rb,rfl,hrb⟩,HT18,HX18⟩;have HS18:=zZ (HS17.out.step HX18 HT18);have kHS18:=HS18.out.fr.at_ 3 rfl;have hb64:aC rb:=by simp at hrb;rcases hrb with rfl|rfl|rfl|rfl<;>constructor<;>omega
       have HWX:=zZ (show aY.wf ⟨⟨90,0⟩,3,⟨0,ra,rb,0⟩⟩ from E7 ⟨by omega,by omega⟩ ⟨by omega,by omega⟩ ⟨by omega,by omega⟩ ⟨by omega,by omega⟩ ⟨by omega,by omega⟩ hb64 ⟨by omega,by omega⟩);clear HT18 HX18 HS17 kHS17 HI hrb hb64 ha1 ha2;refine hK.out _ _ (fun _=>kHS18) ?_;clear hK K;try simp only[kA]
       refine zS 2 [(8,162),(9,163)] kHS18 ?_;iterate 2 (apply zT;exact⟨rfl,rfl⟩;(·intro wk hk;have j0:=hk.c 0 rfl;go_simp;try with_reducible rfl);simp only[kA];exact rfl)
       refine zN (zO 10 (fun K hK=>?_));go_simp;obtain⟨gp,hgp⟩:=nm w18.heap.size;obtain⟨w19,hw19⟩:=nm ((w18.alloc (.cells #[A B 90,A B 0,A B 3,A B 0,A B ra,A B rb,A B 0] 75)):World);have hx19:ab w18 w19:=by rw[hw19];exact (zE _).alloc _
       have B19:Bx (Bk w19 gp #[A B 90,A B 0,A B 3,A B 0,A B ra,A B rb,A B 0] 75):=⟨by rw[hw19,hgp];exact Bk.new _ _ _⟩
       have HS19:=zZ (HS18.out.ext hx19);rw[←hw19,←hgp];clear hw19 hgp hx19 HS18 kHS18;have kHS19:=HS19.out.fr.at_ 3 rfl;refine hK.out _ _ (fun _=>kHS19) ?_;clear hK K;try simp only[kA]
       refine zO 11 (fun K hK=>?_);refine ku (by rfl) _ _ _ (by rfl) w9.heap.size 75 iC _ 7 56 underlying28 hiC hC0 hC1 hC2 rfl (by omega) (cQ w9) AS nS cs' tt.sts (by rfl) HNS.out.symm HS19.out.st gp [A B 90,A B 0,A B 3,A B 0,A B ra,A B rb,A B 0] ⟨⟨90,0⟩,3,⟨0,ra,rb,0⟩⟩ (by rfl) (World.news_of_block B19.out) rfl (by simp[Value.oneCell']) ⟨rfl,HWX.out⟩ (by omega) (by omega) HS19.out.x.size ?_;intro g7 c7 w20 hown7 hg7;have hfr:=HS19.out.frPush hg7;have hpush:=HS19.out.pushSt hown7 hg7;have kHS20:=hfr.at_ 3 rfl;have j0:=(hfr.at_ 3 rfl).c 0 rfl;have f0:=(hfr.at_ 3 rfl).froz;change K (Act.put _ (some 165) _) w20;refine hK.out _ _ (fun _=>kHS20) ?_;clear hK K;try simp only[kA]
       refine zO 12 (fun K hK=>?_);go_simp;refine hK.out _ _ (fun _=>kHS20) ?_;clear hK K;try simp only[kA]
       refine zO 13 (fun K hK=>?_);go_simp;refine hK.out _ _ (fun h=>absurd rfl h) ?_;clear hK K;refine zD ?_;go_wp2_with fail;go_meet
       have hfin:=hpush;rw[←hbw]at hfin;exact⟨s,AP,AB,AX,cP,cB,cX,some ⟨g7,0,none⟩,nS+1,c7,AG,nG,cg',_,_,⟨hfin⟩⟩
    ·have hgsb:gS<bw:=by rw[hbw];exact HGS.out
     have hg2:gS<w14.heap.size:=HS.out.fr.bl.lt 2 rfl;have hb2:w.heap.size+1+1≤w14.heap.size:=by have:=HS.out.hg;have:=HS.out.x.size;omega
     have HP1:=zZ hgsb;have HP2:=zZ hg2;have HP3:=zZ hb2;clear hgsb hg2 hb2 j0 j1 f0 f1;go_wp2_with (go_at_call 27;refine (mO p 2 _ HS.out.fr.tp (by omega) (by omega)).mono ?_;rintro e w15 ⟨v15,rfl,⟨s2,hsv2,hsw2,-⟩,HT15,HX15⟩;obtain⟨BP,dP,BB,dB,BX,dX,rfl⟩:=hsv2.forms;have HS15:=zZ (HS.out.step HX15 HT15);have HV15:=zZ hsv2;have HW15:=zZ hsw2;have HF15:=zZ HS15.out.fin;rw[←hbw]at HF15;clear HT15 HX15 hsv2 hsw2;have r0:=(HS15.out.fr.at_ 2 rfl).c 0 rfl;have r1:=(HS15.out.fr.at_ 2 rfl).c 1 rfl;have r2:=(HS15.out.fr.at_ 2 rfl).c 2 rfl;have r3:=(HS15.out.fr.at_ 2 rfl).c 3 rfl;have f0:=(HS15.out.fr.at_ 2 rfl).froz 0;have f1:=(HS15.out.fr.at_ 2 rfl).froz 1;have f2:=(HS15.out.fr.at_ 2 rfl).froz 2;have f3:=(HS15.out.fr.at_ 2 rfl).froz 3);go_meet
     exact⟨s2,BP,BB,BX,dP,dB,dX,AS,nS,cs',AG,nG,cg',_,_,⟨HF15.out.putS HP1.out HP2.out HP3.out HV15.out HW15.out⟩⟩
   case rest =>
   clear HSW HNS HNG HACC HS;obtain⟨s,AP,AB,AX,cP,cB,cX,AS,nS,cs',AG,nG,cg',sts,nn,HFIN⟩:=hcut;go_upto_region 33 with (fail)
   refine zR 3 (fun w'=>Bk w' gS #[A B s.num,C AP s.pap.length cP,C AB s.bk.length cB,C AX s.xp.length cX] 27∧Bk w' gI #[C AS nS cs',C AG nG cg'] 31) ?_;have kS:(fun w'=>Bk w' gS #[A B s.num,C AP s.pap.length cP,C AB s.bk.length cB,C AX s.xp.length cX] 27∧Bk w' gI #[C AS nS cs',C AG nG cg'] 31) wc.drew:=⟨(HFIN.out.fr.at_ 2 rfl).ext ((zE _).drew),(HFIN.out.fr.at_ 3 rfl).ext ((zE _).drew)⟩
   have kD:ab wc wc.drew:=(zE _).drew;obtain⟨wz,hwz⟩:=nm (wc.drew:World);rw[←hwz]at kS kD⊢;clear hwz;have HFz:=zZ (HFIN.out.ext kD);refine zS 2 [(0,167),(1,168)] kS ?_;iterate 2 (apply zT;exact⟨rfl,rfl⟩;(·intro wk hk;have z0:=hk.1.c 0 rfl;have z1:=hk.1.c 1 rfl;have z2:=hk.1.c 2 rfl;have z3:=hk.1.c 3 rfl;have j0:=hk.2.c 0 rfl;have j1:=hk.2.c 1 rfl;go_simp;try with_reducible rfl);simp only[kA];exact rfl)
   refine zN (zO 2 (fun K hK=>?_));obtain⟨r0,r1,r2,r3⟩:=(HFz.out.fr.at_ 0 rfl).p4 rfl;have f0:=(HFz.out.fr.at_ 0 rfl).froz;have f1:=f0;have f2:=f0;have f3:=f0;go_simp;have hF1:=HFz.out.fr.setAll 0 rfl [A B s.num,C AP s.pap.length cP,C AB s.bk.length cB,C AX s.xp.length cX] rfl;simp only[cZ,Nat.reduceAdd,yV]at hF1;have kS1:=yX (hF1.at_ 2 rfl) (hF1.at_ 3 rfl);clear r0 r1 r2 r3 f0 f1 f2 f3;refine hK.out _ _ (fun _=>kS1) ?_;clear hK K;try simp only[kA]
   refine zO 3 (fun K hK=>?_);obtain⟨r0,r1⟩:=(hF1.at_ 1 rfl).p2 rfl;have f0:=(hF1.at_ 1 rfl).froz;have f1:=f0;go_simp;refine hK.out _ _ (fun h=>absurd rfl h) ?_;clear hK K;refine zD ?_;clear kS1 r0 r1 f0 f1;have hF2:=hF1.setAll 1 rfl [C AS nS cs',C AG nG cg'] rfl;simp only[cZ,Nat.reduceAdd,yV]at hF2;go_wp2_with fail;obtain⟨q0,q1,q2,q3⟩:=(hF2.at_ 0 rfl).p4 rfl;have z0:=(hF2.at_ 0 rfl).froz;have z1:=z0;have z2:=z0;have z3:=z0;obtain⟨q4,q5⟩:=(hF2.at_ 1 rfl).p2 rfl;have z4:=(hF2.at_ 1 rfl).froz;have z5:=z4;refine bodyPost_ret (v:=.tuple #[.agg #[A B s.num,C AP s.pap.length cP,C AB s.bk.length cB,C AX s.xp.length cX],.agg #[C AS nS cs',C AG nG cg']]) (by simp[results,results8,go_sem,q0,q1,q2,q3,q4,q5,z0,z1,z2,z3,z4,z5]) rfl ?_;exact HFz.out.done (n:=n) (fun h=>absurd h (by omega))
end Go.Proofs.YtjgfgdcaocbfhaaGreat

