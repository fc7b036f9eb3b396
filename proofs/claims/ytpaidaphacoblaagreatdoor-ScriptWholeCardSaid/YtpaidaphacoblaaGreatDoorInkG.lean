import Derived.Test.YtpaidaphacoblaaGreatDoorK30
import Derived.Test.YtpaidaphacoblaaGreatDoorK46
set_option linter.all false
set_option maxRecDepth 100000
set_option maxHeartbeats 0
namespace Go.Proofs.YtpaidaphacoblaaGreatDoor
open Go.Value renaming int→B,slice→D
open Go.IntKind renaming i64→C
open Go.RowKit _root_.Go.Proofs.Tryz
noncomputable def rM(s:dl)(l:List aj):r6:=if aC s=0 then cQ s (ay l) else ⟨[],[]⟩
theorem aW(v vl:Value)(s:dl)(l:List aj)(w:World){p:Nat}(hp:p<w.heap.size)(hT:cK w)(hs:aR p w v s)(hv:au p w vl l)(hn:l.length<=300) :
  Calls prog 10 #[v,vl] w fun e w'=>(∃vI,e=.returned (.tuple #[vI,B C (aC s)])/\aK p w' vI (rM s l))/\ab w w':=by
 obtain⟨vP,vB,vX,rfl,hP,hB,hX,hnum⟩:=hs;obtain⟨AP,nP,cP,rfl,-⟩:=hP.open_;obtain⟨AB,nB,cB,rfl,-⟩:=hB.open_;obtain⟨AX,nX,cX,rfl,-⟩:=hX.open_;obtain⟨Al,nl,cl,rfl,-⟩:=hv.open_;have HS:Bx (aR p w (.agg #[B C s.num,D AP nP cP,D AB nB cB,D AX nX cX]) s):=⟨⟨_,_,_,rfl,hP,hB,hX,hnum⟩⟩
 have HV:Bx (au p w (D Al nl cl) l):=⟨hv⟩
 have HT:Bx (cK w):=⟨hT⟩
 have HN:Hid (l.length<=300):=hn;clear hP hB hX hnum hv hT hn;obtain⟨w1,hw1⟩:=nm (((w.alloc (.cells #[B C s.num,D AP nP cP,D AB nB cB,D AX nX cX] 29)).alloc (.cells #[D none 0 0,D none 0 0] 45)):World);have HF:Bx (aA w w1 [(w.heap.size,#[B C s.num,D AP nP cP,D AB nB cB,D AX nX cX],29),(w.heap.size+1,#[D none 0 0,D none 0 0],45)]):=⟨by rw[hw1];exact ((aA.start w).push _ _ rfl).push _ _ (by simp)⟩
 go_enter func10,ntmps10
 go_upto_region 1 with (fail)
 rw[<-hw1];clear hw1;obtain⟨z0,z1,z2,z3⟩:=(HF.out.at_ 0 rfl).p4 rfl;go_wp2_with fail;refine (mf _ s _ (HS.out.ext HF.out.xt)).mono ?_;rintro e w2 ⟨rfl,hx2⟩;have HF2:=bx (HF.out.ext hx2);clear HF hx2 z0 z1 z2 z3;by_cases hck:aC s=0;case neg =>
  have HCK:=zZ hck;have hcb:(aC s != 0)=true:=by simp[hck]
  clear hck;obtain⟨r0,r1⟩:=(HF2.out.at_ 1 rfl).p2 rfl;have f0:=(HF2.out.at_ 1 rfl).froz;have f1:=f0;go_wp2_with fail;have h9:=HF2.out.setAll 1 rfl [D none 0 0,D none 0 0] rfl;refine bodyPost_ret (v:=.tuple #[.agg #[D none 0 0,D none 0 0],B C (aC s)]) (by simp[results,results10,go_sem,r0,r1]) rfl ⟨⟨_,rfl,?_⟩,h9.xt⟩;unfold rM;rw[if_neg HCK.out];exact⟨_,_,rfl,bj.nil _ _ _ _,bj.nil _ _ _ _⟩
 have HOK:Bx (dU s):=⟨iL.1 hck⟩
 have hcb:(aC s != 0)=false:=by simp[hck]
 rw[hck];clear hcb;have HCK:=zZ hck;clear hck;go_upto_region 4 with (fail)
 go_upto_region 7 with (go_at_call 30;refine (rj _ l _ (zB hp HF2.out.xt.size) (HV.out.ext (bR.stab p) HF2.out.xt) HN.out).mono ?_;rintro e w3 ⟨⟨vo,rfl,b,n,hpb,rfl,hnl,hI⟩,hx3⟩;have HNL:=zZ hnl;clear hnl)
 have HF3:=bx (HF2.out.ext hx3);have HC:Bx (au p w3 (D (some ⟨b,0,none⟩) n n) (ay l)):=⟨hI⟩
 have hn3:n<=300:=by have:=Bd l;have:=HN.out;have:=HNL.out;omega
 obtain⟨L,hL⟩:=nm (ay l);have HLL:=zZ hL;rw[<-hL]at HC HNL;clear hL;clear hx3 hI HF2 hpb;have hm1:=fun W=>FC n (by omega) W;have hmm:=@run_makeMap prog;go_upto_region 9 with (fail)
 clear hm1 hmm;obtain⟨bs,hbs⟩:=nm w3.heap.size;obtain⟨w4,hw4⟩:=nm (w3.alloc (.cells (madeCells #[B C 0,B C 0,B C 0,B C 0,B C 0,B C 0,B C 0] (n*7)) 103));obtain⟨bm,hbm⟩:=nm w4.heap.size;obtain⟨w5,hw5⟩:=nm (w4.alloc (.map #[] 0));have s4:w4.heap.size=w3.heap.size+1:=by rw[hw4];simp
 have e4:w3.heap.size+1=bm:=by omega
 have HR5:Bx (kz (af s L) w3 w5 bs bm n 0 (List.replicate n Iv) (fun _=>[])):=⟨by
  have x1:ab w3 w4:=by rw[hw4];exact (zE _).alloc _
  have x2:ab w4 w5:=by rw[hw5];exact (zE _).alloc _
  have o1:=ah.made (e:=103) (R:=cU w3) w3 Iv.cells Iv n (by decide) (by omega) ⟨rfl,Ix⟩;refine⟨x1.trans x2,?_,?_,fun j x hj=>by omega,fun c g=>rfl,by omega,by omega⟩
  ·rw[hbs];rw[hw4]at x2;exact o1.ext x2
  ·rw[hbm,hw5];exact fp.made _ _ _ _⟩
 rw[e4,<-hbs,<-hw4,<-hw5];clear hw4 hw5 hbs hbm s4 e4;go_wp2_with fail;go_loopw [41] (fun s41 wr=>∃(i:Nat) (ss:List dF) (G:Value->List Nat),s41=B C i/\i<=n/\Bx (kz (af s L) w3 wr bs bm n i ss G)) (fun i _=>n-(intOf i).toNat)
 case atStart=>exact⟨0,_,_,rfl,by omega,HR5⟩
 case round =>
  obtain⟨i,ss,G,rfl,hi,HR⟩:=hrel;clear HR5;by_cases hin:i<n
  ·obtain⟨t,sr,q,kd,ct,ts,tq,lp,lc,lg,lv,str,ch,Au,mu,cu,HX,hcs,hI,hwf⟩:=au.read HC.out (XT.refl p w3) hin;have hcs2:=hcs.ext HR.out.x;rw[yV]at hcs2;obtain⟨c0,c1,c2,c3,c4,c5,c6,c7,c8,c9,c10,c11,c12⟩:=hcs2;have HI:Bx (ak p w3 (D Au mu cu) ch):=⟨hI⟩
   have HRX:=zZ (lL (s:=s) HX.out);have HWF:=zZ (DM (s:=s) (nk HC.out) hwf);have HSW:Bx (bN.wf ⟨t,sr,q⟩):=⟨hwf.1⟩
   clear hcs hI hwf;go_upto_region 12 with (fail)
   obtain⟨g,hg⟩:=nm wr.heap.size;obtain⟨w6,hw6⟩:=nm ((wr.alloc (.cells #[B C t,B C sr,B C q,B C kd,.string (ba str),B C ct,D Au mu cu,B C ts,B C tq,B C lp,B C lc,B C lg,B C lv] 41)):World);have hX6:ab wr w6:=by rw[hw6];exact (zE _).alloc _
   have HR6:=zZ (HR.out.ext hX6);have hB6:Bk w6 g #[B C t,B C sr,B C q,B C kd,.string (ba str),B C ct,D Au mu cu,B C ts,B C tq,B C lp,B C lc,B C lg,B C lv] 41:=by rw[hw6,hg];exact Bk.new _ _ _
   have hgl:bm<g:=by rw[hg];exact HR.out.lt
   rw[<-hw6,<-hg];clear hw6 hg HR c0 c1 c2 c3 c4 c5 c6 c7 c8 c9 c10 c11 c12 hX6;obtain⟨y0,y1,y2,y3,y4,y5,y6,y7,y8,y9,y10,y11,y12⟩:=(hB6).p13 rfl;have HB6:=zZ hB6;clear hB6;by_cases hk1:kd=1;case neg =>
    have hkb:(kd != 1)=true:=by simp[hk1]
    have HR7:=zZ (HR6.out.skip HRX.out (by rw[ff];exact hk1) (by rw[sU hk1]));replace hk1:=zZ hk1;clear y0 y1 y2 y4 y5 y6 y7 y8 y9 y10 y11 y12;go_wp2_with fail;go_roundw
    case rel=>exact⟨i+1,_,_,by go_num,by omega,⟨HR7.out⟩⟩
    case measure=>simp[intOf];omega
   subst hk1;go_upto_region 13 with (fail)
   go_wp2_with fail;refine (ui t sr q 1 ct ts tq lp lc lg lv _ Au mu cu _).mono ?_;rintro e w7 ⟨rfl,hx7⟩;go_wp2_with fail;refine (mK _ L sr q _ (HT.out.ext ((HF3.out.xt.trans HR6.out.x).trans hx7)) (HC.out.ext (bR.stab p) (HR6.out.x.trans hx7))).mono ?_;rintro e w8 ⟨ep,ec,eg,ev,st,rfl,hlab,hx8⟩;have HR8:=zZ ((HR6.out.ext hx7).ext hx8);have HB8:=zZ ((HB6.out.ext hx7).ext hx8);have HSV:=zZ (gj (s:=s) (l:=L) (c:=⟨⟨t,sr,q⟩,1,str,ct,ch,⟨ts,tq⟩,⟨lp,lc,lg,lv⟩⟩) rfl hlab);have HLW:=zZ (jo (nk HC.out) hlab);have hst:=ku L (aj.id ⟨⟨t,sr,q⟩,1,str,ct,ch,⟨ts,tq⟩,⟨lp,lc,lg,lv⟩⟩);rw[show aj.id ⟨⟨t,sr,q⟩,1,str,ct,ch,⟨ts,tq⟩,⟨lp,lc,lg,lv⟩⟩=⟨sr,q⟩ from rfl,hlab]at hst;simp only at hst;have HST:=zZ hst;clear hx7 hx8 hlab hst HR6 HB6 y0 y1 y2 y3 y4 y5 y6 y7 y8 y9 y10 y11 y12;go_upto_region 14 with (fail)
   obtain⟨h8,hh8⟩:=nm w8.heap.size;obtain⟨w9,hw9⟩:=nm ((w8.alloc (.cells #[B C ep,B C ec,B C eg,B C ev] 39)):World);have hX9:ab w8 w9:=by rw[hw9];exact (zE _).alloc _
   have HR9:=zZ (HR8.out.ext hX9);have HB9:=zZ (HB8.out.ext hX9);have HL9:Bx (Bk w9 h8 #[B C ep,B C ec,B C eg,B C ev] 39):=⟨by rw[hw9,hh8];exact Bk.new _ _ _⟩
   have hhl:bm<h8:=by rw[hh8];exact HR8.out.lt
   rw[<-hw9,<-hh8];clear hw9 hh8 hX9 HR8 HB8;obtain⟨fb,hfb⟩:=nm (bH s ⟨ep,ec,eg,ev⟩ ch);have HFB:=zZ hfb;simp only[<-hfb]at HSV;clear hfb;go_cut [65] (fun s65 wx=>∃bb:Bool,s65=.bool bb/\Hid (bb=(decide (st=0)&&!fb))/\ab w9 wx)
   case first =>
    by_cases h0:st=0
    ·have h0b:(st==0)=true:=by simp[h0]
     have HD:=zZ (show (!fb)=(decide (st=0)&&!fb) by rw[decide_eq_true h0];rfl);replace h0:=zZ h0;obtain⟨z0,z1,z2,z3⟩:=((HF3.out.ext HR9.out.x).at_ 0 rfl).p4 rfl;obtain⟨e0,e1,e2,e3⟩:=(HL9.out).p4 rfl;have y6:=HB9.out.c 6 rfl;go_wp2_with fail;refine (qE _ _ s ep ec eg ev ch _ (p:=p) (q:=p) (zB hp (HF3.out.xt.trans HR9.out.x).size) (HS.out.ext (HF3.out.xt.trans HR9.out.x)) (HI.out.ext HR9.out.x) HLW.out HOK.out).mono ?_;rintro e w10 ⟨rfl,hx10⟩;rw[<-HFB.out];go_wp2_with fail;go_meet
     exact⟨_,rfl,HD.out,hx10⟩
    ·have h0b:(st==0)=false:=by simp[h0]
     have HD:=zZ (show false=(decide (st=0)&&!fb) by rw[decide_eq_false h0];rfl);replace h0:=zZ h0;go_wp2_with fail;go_meet
     exact⟨_,rfl,HD.out,zE _⟩
   case rest =>
   obtain⟨bb,rfl,hbb,hxc⟩:=hcut;have HRc:=zZ (HR9.out.ext hxc);have HBc:=zZ (HB9.out.ext hxc);have HLc:=zZ (HL9.out.ext hxc);clear HR9 HB9 HL9 hxc HFB;obtain⟨sx,hsx⟩:=nm (if st=0 then (if fb=true then 0 else 5) else st:Int);have HX1:Bx (aM s L ⟨⟨t,sr,q⟩,1,str,ct,ch,⟨ts,tq⟩,⟨lp,lc,lg,lv⟩⟩=⟨⟨⟨t,sr,q⟩,1,str,ct,ch,⟨ts,tq⟩,⟨lp,lc,lg,lv⟩⟩,⟨ep,ec,eg,ev⟩,sx,decide (sx=0)⟩):=⟨by
    rw[HSV.out,hsx];by_cases h0:st=0
    ·cases fb<;>simp[h0]
    ·simp[h0]⟩
   have HB1:Bx ((bb=true->sx=5)/\(bb=false->sx=st)):=⟨by
    have:=hbb.out;rw[this,hsx];by_cases h0:st=0
    ·cases fb<;>simp[h0]
    ·simp[h0]⟩
   clear hsx hbb HSV HST;go_upto_if 65 with (fail)
   go_cut [14] (fun s14 wx=>s14=B C sx/\wx=wc)
   case first =>
    cases bb with
    |true=>go_wp2_with fail;go_meet;exact⟨by rw[HB1.out.1 (by simp)],rfl⟩
    |false=>go_wp2_with fail;go_meet;exact⟨by rw[HB1.out.2 (by simp)],rfl⟩
   case rest =>
   obtain⟨rfl,rfl⟩:=hcut;clear HB1;have HRX2:Bx ((af s L)[i]?=some ⟨⟨⟨t,sr,q⟩,1,str,ct,ch,⟨ts,tq⟩,⟨lp,lc,lg,lv⟩⟩,⟨ep,ec,eg,ev⟩,sx,decide (sx=0)⟩):=⟨by rw[HRX.out,HX1.out]⟩
   have HWF2:=zZ HWF.out;rw[HX1.out]at HWF2;clear HRX HX1 HWF;obtain⟨i0,hi0,hz0,hz1,hz2⟩:=info_parts Tryz.infoI;go_upto_if 67 with (fail)
   go_cut [] (fun wx=>∃G',Bx (ab w3 wx/\ah bs 103 7 (cU w3) wx (D (some ⟨bs,0,none⟩) n n) ss/\Bk wx g #[B C t,B C sr,B C q,B C 1,.string (ba str),B C ct,D Au mu cu,B C ts,B C tq,B C lp,B C lc,B C lg,B C lv] 41/\Bk wx h8 #[B C ep,B C ec,B C eg,B C ev] 39/\fp prog 101 3 wx bm (bm+1) G'/\∀c g,G' (r9 c g)=ed (af s L) (i+1) c g))
   case first =>
    by_cases hs0:sx=0
    ·have hsb:(sx==0)=true:=by simp[hs0]
     have HF1:Bx ((af s L)[i]?=some ⟨⟨⟨t,sr,q⟩,1,str,ct,ch,⟨ts,tq⟩,⟨lp,lc,lg,lv⟩⟩,⟨ep,ec,eg,ev⟩,sx,true⟩):=⟨by rw[HRX2.out,decide_eq_true hs0]⟩
     replace hs0:=zZ hs0;obtain⟨e0,e1,e2,e3⟩:=(HLc.out).p4 rfl;go_upto_region 18 with (fail)
     obtain⟨gp,hgp⟩:=nm wc.heap.size;obtain⟨w10,hw10⟩:=nm ((wc.alloc (.cells #[B C ec,B C eg] 101)):World);have hX10:ab wc w10:=by rw[hw10];exact (zE _).alloc _
     have hP:Bk w10 gp #[B C ec,B C eg] 101:=by rw[hw10,hgp];exact Bk.new _ _ _
     rw[<-hw10,<-hgp];clear hw10 hgp;have p0:=hP.c 0 rfl;have p1:=hP.c 1 rfl;have x11:ab wc (w10.alloc (.cells #[B C (i:Int)] 3)):=hX10.trans ((zE _).alloc _);obtain⟨kl,hkl⟩:=sM HLW.out.2.1 HLW.out.2.2.1;simp only at hkl;obtain⟨w12,v12,stm,es,clk,hme,hg12,hlt,hb12,hE,x,hx,hxk,rfl,rfl⟩:=(HRc.out.gr.ext x11).entry (E:=22) (t:=95) pm underlying95 (fun w=>zeroValue22 w) hkl;have hrow:=hE.row x hx;rw[hxk]at hrow;have hGL:(G (r9 ec eg)).length<=300:=by rw[HRc.out.go];have:=G8 (af s L) i ec eg;omega
     have hcell:w12.cell? ⟨w10.heap.size,0,none⟩=some (B C (i:Int)):=by have h1:(w10.alloc (.cells #[B C (i:Int)] 3)).cell? ⟨w10.heap.size,0,none⟩=some (B C (i:Int)):=(Bk.new w10 #[B C (i:Int)] 3).c 0 rfl;have hb1:bm<w10.heap.size:=zB HRc.out.lt hX10.size;rw[wG (w:=w10.alloc (.cells #[B C (i:Int)] 3)) (hg12.block _ (bK h1) (fun e=>by injection e with e;simp only at e;omega))];exact h1
     have hb12s:bm+1<=w12.heap.size:=al hb12;have HALL:Bx (ab wc (w10.alloc (.cells #[B C (i:Int)] 3))/\(w10.alloc (.cells #[B C (i:Int)] 3)).grownBy w12 (some bm)):=⟨⟨x11,hg12⟩⟩
     unfold r9 at hme;clear e0 e1 e2 e3 hP x11 hX10 hg12 hkl;go_wp2_with (at_builtin;refine wpList_append_own_at _ rfl (.tmp 75) (.tmp 77) 22 rfl (bm+1) 3 i0 _ 1 8 underlying22 hi0 hz0 hz1 hz2 rfl (by decide) x.val _ _ rfl hrow ⟨w10.heap.size,0,none⟩ 1 1 [B C (i:Int)] rfl rfl (by intro j u hj;match j,hj with|0,hj=>(simp at hj;subst hj;rw[fa];exact hcell)|j+1,hj=>simp at hj) (by intro u hu;simp at hu;subst hu;rfl) (by unfold maxLen;omega) (by omega) hb12s ?_;intro v13 w13 hown13 hg13 hnil13 hat13;obtain⟨w14,hst14,hg14,hG14⟩:=pS.back (t:=95) (js:=G (r9 ec eg)++[i]) hlt hb12 hE pm hx hg13 (by rw[yU,yG];exact hown13) (hat13.imp id (fun h=>⟨_,h,zX _⟩)));have HE:Bx (∃G',ab w3 w14/\ah bs 103 7 (cU w3) w14 (D (some ⟨bs,0,none⟩) n n) ss/\Bk w14 g #[B C t,B C sr,B C q,B C 1,.string (ba str),B C ct,D Au mu cu,B C ts,B C tq,B C lp,B C lc,B C lg,B C lv] 41/\Bk w14 h8 #[B C ep,B C ec,B C eg,B C ev] 39/\fp prog 101 3 w14 bm (bm+1) G'/\∀c g,G' (r9 c g)=ed (af s L) (i+1) c g):=⟨by
      have h:=HRc.out;have h1:=h.g1;have h2:=h.g2;have hB:=(HBc.out.ext HALL.out.1).grown HALL.out.2 (fun e=>by injection e with e;omega);have hL:=(HLc.out.ext HALL.out.1).grown HALL.out.2 (fun e=>by injection e with e;omega);refine⟨_,((((h.x.trans HALL.out.1).grown HALL.out.2 (fun kk e=>by injection e with e;omega)).grown hg13 (fun kk e=>by have:=(hE.lt hx e).1;omega)).grown hg14 (fun kk e=>by injection e with e;omega)),(((h.st.ext HALL.out.1).grown HALL.out.2 (.inr (fun e=>by simp only[Value.ownBlock]at e;injection e with e;omega))).grown hg13 (.inr (fun e=>by simp only[Value.ownBlock]at e;have:=(hE.lt hx e.symm).1;omega))).grown hg14 (.inr (fun e=>by simp only[Value.ownBlock]at e;injection e with e;omega)),
       (hB.grown hg13 (tX hrow hB (by decide))).grown hg14 (fun e=>by injection e with e;omega),(hL.grown hg13 (tX hrow hL (by decide))).grown hg14 (fun e=>by injection e with e;omega),hG14,?_⟩
      rw[hxk];exact JJ HF1.out rfl h.go⟩
     clear hst14 hG14 hat13 hnil13 hg13 hg14 hown13 hrow hme hcell hE hb12 p0 p1;go_meet
     obtain⟨G',h⟩:=HE.out;exact⟨G',⟨h⟩⟩
    ·have hsb:(sx==0)=false:=by simp[hs0]
     have HF1:Bx ((af s L)[i]?=some ⟨⟨⟨t,sr,q⟩,1,str,ct,ch,⟨ts,tq⟩,⟨lp,lc,lg,lv⟩⟩,⟨ep,ec,eg,ev⟩,sx,false⟩):=⟨by rw[HRX2.out,decide_eq_false hs0]⟩
     replace hs0:=zZ hs0;go_wp2_with fail;go_meet
     exact⟨G,⟨⟨HRc.out.x,HRc.out.st,HBc.out,HLc.out,HRc.out.gr,GJ HF1.out rfl HRc.out.go⟩⟩⟩
   case rest =>
   obtain⟨G',HM⟩:=hcut;have HSK:=zZ HRc.out.sk;have HG1:=zZ HRc.out.g1;have HG2:=zZ HRc.out.g2;clear HRc HBc HLc;obtain⟨y0,y1,y2,y3,y4,y5,y6,y7,y8,y9,y10,y11,y12⟩:=(HM.out.2.2.1).p13 rfl;obtain⟨e0,e1,e2,e3⟩:=(HM.out.2.2.2.1).p4 rfl;go_upto_region 19 with (fail)
   refine zQ 8 fun wd kS=>?_;refine zS 5 [(0,81),(1,82),(2,83),(4,85),(5,86)] kS ?_;iterate 5 refine zT ?_ (y:=by intro wk hk;obtain⟨_,_,_,_,_,_,_,_⟩:=zkc8 hk y0 y1 y2 y3 y4 y5 y6 y7;obtain⟨_,_,_,_,_,_,_,_⟩:=zkc8 hk y8 y9 y10 y11 y12 e0 e1 e2;have:=hk.cell e3;go_simp;try with_reducible rfl)
   refine zN (zO 3 (fun K hK=>?_));go_simp;refine (ui t sr q 1 ct ts tq lp lc lg lv _ Au mu cu _).mono ?_;rintro e w7 ⟨rfl,hx7⟩;have kS2:ab wc w7:=kS.trans hx7;clear hx7;refine hK.out _ _ (fun _=>kS2) ?_;clear hK K;try simp only[kA]
   refine zS 2 [(6,87),(7,88)] kS2 ?_;iterate 2 refine zT ?_ (y:=by intro wk hk;obtain⟨_,_,_,_,_,_,_,_⟩:=zkc8 hk y0 y1 y2 y3 y4 y5 y6 y7;obtain⟨_,_,_,_,_,_,_,_⟩:=zkc8 hk y8 y9 y10 y11 y12 e0 e1 e2;have:=hk.cell e3;go_simp;try with_reducible rfl)
   refine zN (zO 8 (fun K hK=>?_));obtain⟨cs0,x00,-,⟨rfl,-⟩,-,hcl,hfz⟩:=(HM.out.2.1.ext kS2).cellsAt hin;have z0:=hcl 0 _ rfl;have z1:=hcl 1 _ rfl;have z2:=hcl 2 _ rfl;have z3:=hcl 3 _ rfl;have z4:=hcl 4 _ rfl;have z5:=hcl 5 _ rfl;have z6:=hcl 6 _ rfl;rw[yQ]at z0;have f0:=hfz (i*7);have f1:=hfz (i*7+1);have f2:=hfz (i*7+2);have f3:=hfz (i*7+3);have f4:=hfz (i*7+4);have f5:=hfz (i*7+5);have f6:=hfz (i*7+6);clear hcl hfz;go_simp;have hS8:=He (HM.out.1.trans kS2) (HM.out.2.1.ext kS2) HSK.out HG1.out HG2.out hin HRX2.out (HM.out.2.2.2.2.1.ext kS2) HM.out.2.2.2.2.2 HWF2.out;obtain⟨w8,hw8⟩:=nm (be w7 bs (i*7) (dF.cells (lQ ⟨⟨⟨t,sr,q⟩,1,str,ct,ch,⟨ts,tq⟩,⟨lp,lc,lg,lv⟩⟩,⟨ep,ec,eg,ev⟩,sx,decide (sx=0)⟩)));rw[<-hw8]at hS8;simp only[lQ,dF.cells,aj.id,be,wC,Nat.reduceAdd]at hw8;rw[<-hw8];have HS8:=zZ hS8;clear hw8 hS8 z0 z1 z2 z3 z4 z5 z6 f0 f1 f2 f3 f4 f5 f6;refine hK.out _ _ (fun h=>absurd rfl h) ?_;clear hK K;refine zD ?_;clear HM y0 y1 y2 y3 y4 y5 y6 y7 y8 y9 y10 y11 y12 e0 e1 e2 e3;go_wp2_with fail;go_roundw
   case rel=>exact⟨i+1,_,_,by go_num,by omega,⟨HS8.out⟩⟩
   case measure=>simp[intOf];omega
  ·obtain rfl:n=i:=by omega
   clear HT HS HN;obtain⟨wa,rfl⟩:=nm wr;obtain⟨iC,hiC,hC0,hC1,hC2⟩:=info_parts Tryz.infoSst;obtain⟨iP,hiP,hP0,hP1,hP2⟩:=info_parts Tryz.infoPg;have HNL2:Hid (n=L.length):=HNL.out;go_upto_region 22 with (fail)
   obtain⟨gI,hgI⟩:=nm wa.heap.size;obtain⟨w6,hw6⟩:=nm ((wa.alloc (.cells #[D none 0 0,D none 0 0] 45)):World);have HJ6:Bx (dy wa w6 gI (gI+1) (D none 0 0) (D none 0 0) (aZ (af s L) 0) (bW (af s L) 0)):=⟨by rw[hw6,hgI];exact dy.start _⟩
   rw[<-hw6,<-hgI];clear hw6 hgI;go_wp2_with fail;go_loopw [92] (fun s92 wr=>∃(k:Nat) (vS vG:Value),s92=B C k/\k<=n/\Bx (dy wa wr gI (gI+1) vS vG (aZ (af s L) k) (bW (af s L) k))) (fun i _=>n-(intOf i).toNat)
   case atStart=>exact⟨0,_,_,rfl,by omega,HJ6⟩
   case round =>
    obtain⟨k,vS,vG,rfl,hk,HJ⟩:=hrel;clear HJ6;by_cases hkn:k<n
    ·obtain⟨t,sr,q,kd,ct,ts,tq,lp,lc,lg,lv,str,ch,Au,mu,cu,HX,hcs,hI,hwf⟩:=au.read HC.out (XT.refl p w3) hkn;have hcs2:=hcs.ext (HR.out.x.trans HJ.out.x);rw[yV]at hcs2;obtain⟨c0,c1,c2,c3,c4,c5,c6,c7,c8,c9,c10,c11,c12⟩:=hcs2;have HI:Bx (ak p w3 (D Au mu cu) ch):=⟨hI⟩
     have HRX:=zZ (lL (s:=s) HX.out);have HCW:=zZ hwf;have HWF:=zZ (DM (s:=s) (nk HC.out) hwf);clear hcs hI hwf;go_upto_region 25 with (fail)
     obtain⟨g,hg⟩:=nm wr.heap.size;obtain⟨w7,hw7⟩:=nm ((wr.alloc (.cells #[B C t,B C sr,B C q,B C kd,.string (ba str),B C ct,D Au mu cu,B C ts,B C tq,B C lp,B C lc,B C lg,B C lv] 41)):World);have HF7:Bx (aA wr w7 [(g,#[B C t,B C sr,B C q,B C kd,.string (ba str),B C ct,D Au mu cu,B C ts,B C tq,B C lp,B C lc,B C lg,B C lv],41)]):=⟨by rw[hw7,hg];exact (aA.start wr).push _ _ rfl⟩
     rw[<-hw7,<-hg];clear hw7 hg c0 c1 c2 c3 c4 c5 c6 c7 c8 c9 c10 c11 c12;have y3:=(HF7.out.at_ 0 rfl).c 3 rfl;by_cases hk1:kd=1;case neg =>
      have hkb:(kd != 1)=true:=by simp[hk1]
      have HJ8:Bx (dy wa w7 gI (gI+1) vS vG (aZ (af s L) (k+1)) (bW (af s L) (k+1))):=⟨by rw[Bb HRX.out (by rw[ff];exact hk1),kG HRX.out (fun h=>hk1 (by have:=h.1;rwa [ff]at this))];exact HJ.out.ext HF7.out.xt⟩
      replace hk1:=zZ hk1;go_wp2_with fail;go_roundw
      case rel=>exact⟨k+1,_,_,by go_num,by omega,HJ8⟩
      case measure=>simp[intOf];omega
     subst hk1;obtain⟨ep,ec,eg,ev,sx,hsc⟩:=Gq s L (c:=⟨⟨t,sr,q⟩,1,str,ct,ch,⟨ts,tq⟩,⟨lp,lc,lg,lv⟩⟩) rfl;have hsk:=HR.out.sk k _ hkn HRX.out (by rw[ff]);have hkn2:=hkn;obtain⟨cs0,x00,-,⟨hcs0,-⟩,hx0,hcl,-⟩:=(HR.out.st.ext (HJ.out.x.trans HF7.out.xt)).cellsAt hkn;have hxe:x00=lQ (aM s L ⟨⟨t,sr,q⟩,1,str,ct,ch,⟨ts,tq⟩,⟨lp,lc,lg,lv⟩⟩):=by have:=hx0.out;rw[hsk]at this;injection this with this;exact this.symm
     subst hxe;rw[hsc]at hcs0;subst hcs0;have z0:w7.cell? ⟨bs,k*7+0,none⟩=some (B C sr):=hcl 0 _ rfl;have z1:w7.cell? ⟨bs,k*7+1,none⟩=some (B C q):=hcl 1 _ rfl;have z2:w7.cell? ⟨bs,k*7+2,none⟩=some (B C sx):=hcl 2 _ rfl;have z3:w7.cell? ⟨bs,k*7+3,none⟩=some (B C ep):=hcl 3 _ rfl;have z4:w7.cell? ⟨bs,k*7+4,none⟩=some (B C ec):=hcl 4 _ rfl;have z5:w7.cell? ⟨bs,k*7+5,none⟩=some (B C eg):=hcl 5 _ rfl;have z6:w7.cell? ⟨bs,k*7+6,none⟩=some (B C ev):=hcl 6 _ rfl;rw[yQ]at z0;have HRX2:Bx ((af s L)[k]?=some ⟨⟨⟨t,sr,q⟩,1,str,ct,ch,⟨ts,tq⟩,⟨lp,lc,lg,lv⟩⟩,⟨ep,ec,eg,ev⟩,sx,decide (sx=0)⟩):=⟨by rw[HRX.out,hsc]⟩
     have HWF2:=zZ HWF.out;rw[hsc]at HWF2;clear HRX HWF hsc hsk hx0 hcl;go_upto_region 27 with (fail)
     obtain⟨hb,hhb⟩:=nm w7.heap.size;obtain⟨w8,hw8⟩:=nm ((w7.alloc (.cells #[B C sr,B C q,B C sx,B C ep,B C ec,B C eg,B C ev] 103)):World);have HF8:Bx (aA wr w8 [(g,#[B C t,B C sr,B C q,B C 1,.string (ba str),B C ct,D Au mu cu,B C ts,B C tq,B C lp,B C lc,B C lg,B C lv],41),(hb,#[B C sr,B C q,B C sx,B C ep,B C ec,B C eg,B C ev],103)]):=⟨by rw[hw8,hhb];exact HF7.out.push _ _ rfl⟩
     rw[<-hw8,<-hhb];clear hw8 hhb HF7 y3 z0 z1 z2 z3 z4 z5 z6;obtain⟨sv,hsv⟩:=nm (cR (af s L) k ⟨⟨⟨t,sr,q⟩,1,str,ct,ch,⟨ts,tq⟩,⟨lp,lc,lg,lv⟩⟩,⟨ep,ec,eg,ev⟩,sx,decide (sx=0)⟩);have HSV:=zZ hsv;clear hsv;obtain⟨e0,e1,e2,e3,e4,e5,e6⟩:=(HF8.out.at_ 1 rfl).p7 rfl;go_upto_if 106 with (fail)
     go_cut [] (fun wx=>Bx (aA wr wx [(g,#[B C t,B C sr,B C q,B C 1,.string (ba str),B C ct,D Au mu cu,B C ts,B C tq,B C lp,B C lc,B C lg,B C lv],41),(hb,#[B C sr,B C q,B C sv,B C ep,B C ec,B C eg,B C ev],103)]))
     case first =>
      by_cases hs0:sx=0
      ·have hsb:(sx==0)=true:=by simp[hs0]
       obtain⟨kl,hkl⟩:=sM HWF2.out.2.2.2.1 HWF2.out.2.2.2.2.1;simp only[lQ]at hkl;obtain⟨vg,hlk,hrow⟩:=(HR.out.gr.ext (HJ.out.x.trans HF8.out.xt)).look (E:=22) (t:=95) pm underlying95 (zeroValue22 _) hkl;obtain⟨js,j0,y0,hIj,hj0,hy0,hin,hst⟩:=Ek (p:=p) HNL2.out hn3 HRX2.out (decide_eq_true hs0) HR.out.go hrow (by have:=HR.out.g1;have:=HR.out.g2;have:=HF3.out.xt.size;omega);rw[<-HSV.out]at hst;unfold r9 at hlk;obtain⟨Ag,mg,cg,rfl,-⟩:=hIj.open_;have HIJ:=zZ hIj;have HJ0:=zZ hj0;have HY0:=zZ hy0;have HIN:=zZ hin;have HST:=zZ hst;clear hIj hj0 hy0 hin hst hrow hkl;replace hs0:=zZ hs0;go_wp2_with fail;refine (uc _ _ L js k j0 y0 _ (HC.out.ext (bR.stab p) ((HR.out.x.trans HJ.out.x).trans HF8.out.xt)) HIJ.out HJ0.out HY0.out HIN.out).mono ?_;rintro e w9 ⟨rfl,hx9⟩;have HF9:=zZ (HF8.out.ext hx9);rw[HST.out];clear hx9 hlk e0 e1 e2 e3 e4 e5 e6;have e2:=(HF9.out.at_ 1 rfl).c 2 rfl;have f2:=(HF9.out.at_ 1 rfl).froz;go_wp2_with fail;have hfin:=HF9.out.set 1 rfl 2 (B C sv);go_meet
       exact⟨hfin⟩
      ·have hsb:(sx==0)=false:=by simp[hs0]
       have he:Hid (sv=sx):=by
        show sv=sx
        rw[HSV.out];unfold cR;simp[hs0]
       replace hs0:=zZ hs0;go_wp2_with fail;go_meet
       rw[he.out];exact HF8
     case rest =>
     clear HF8 e0 e1 e2 e3 e4 e5 e6;have HF9:=hcut;clear hcut;have HJ9:=zZ (HJ.out.ext HF9.out.xt);have HW9:=zZ ((HR.out.x.trans HJ.out.x).trans HF9.out.xt);clear HJ;obtain⟨AS,cS,hvS⟩:=HJ9.out.st.form;obtain⟨AG,cG,hvG⟩:=HJ9.out.pg.form;obtain⟨nS,hnS⟩:=nm ((aZ (af s L) k).length);obtain⟨nG,hnG⟩:=nm ((bW (af s L) k).length);rw[<-hnS]at hvS;rw[<-hnG]at hvG;subst hvS;subst hvG;have hnS1:nS<=300:=by have:=uV (ry (af s L)) (List.range k);rw[wQ]at this;unfold aZ at hnS;omega
     have hnG1:nG<=300:=by have:=uV (Pm (af s L)) (List.range k);rw[wQ]at this;unfold bW at hnG;omega
     have HNS:=zZ hnS;have HNG:=zZ hnG;clear hnS hnG;obtain⟨e0,e1,e2,e3,e4,e5,e6⟩:=(HF9.out.at_ 1 rfl).p7 rfl;go_upto_if 122 with (fail)
     go_cut [] (fun wz=>∃vG',Bx (dy wa wz gI (gI+1) (D AS nS cS) vG' (aZ (af s L) k) (bW (af s L) (k+1))/\Bk wz hb #[B C sr,B C q,B C sv,B C ep,B C ec,B C eg,B C ev] 103))
     case first =>
      by_cases h1:sv=1
      ·have h1b:(sv==1)=true:=by simp[h1]
       have HPG:=zZ (ws HRX2.out rfl (by rw[<-HSV.out];exact h1));replace h1:=zZ h1;clear e0 e1 e2 e3 e4 e5 e6;go_upto_region 30 with (fail)
       refine zR 19 (fun w'=>Bk w' gI #[D AS nS cS,D AG nG cG] 45/\Bk w' hb #[B C sr,B C q,B C sv,B C ep,B C ec,B C eg,B C ev] 103/\Bk w' g #[B C t,B C sr,B C q,B C 1,.string (ba str),B C ct,D Au mu cu,B C ts,B C tq,B C lp,B C lc,B C lg,B C lv] 41) ?_;have kS:(fun w'=>Bk w' gI #[D AS nS cS,D AG nG cG] 45/\Bk w' hb #[B C sr,B C q,B C sv,B C ep,B C ec,B C eg,B C ev] 103/\Bk w' g #[B C t,B C sr,B C q,B C 1,.string (ba str),B C ct,D Au mu cu,B C ts,B C tq,B C lp,B C lc,B C lg,B C lv] 41) wc.drew:=⟨HJ9.out.it.ext ((zE _).drew),(HF9.out.at_ 1 rfl).ext ((zE _).drew),(HF9.out.at_ 0 rfl).ext ((zE _).drew)⟩
       have kD:ab wc wc.drew:=(zE _).drew;obtain⟨wd,hwd⟩:=nm (wc.drew:World);rw[<-hwd]at kS kD⊢;clear hwd;refine zS 14 [(0,123),(1,124),(2,125),(3,126),(4,127),(5,128),(6,129),(7,130),(8,131),(9,132),(10,133),(11,134),(13,136),(14,137)] kS ?_;iterate 14 refine zT ?_ (y:=by intro wk hk;(have j1:=hk.1.c 1 rfl);(have h0:=hk.2.1.c 0 rfl);(have h1:=hk.2.1.c 1 rfl);(have h4:=hk.2.1.c 4 rfl);(have h5:=hk.2.1.c 5 rfl);(have y5:=hk.2.2.c 5 rfl);(have y6:=hk.2.2.c 6 rfl);go_simp;try with_reducible rfl)
       refine zN (zO 12 (fun K hK=>?_));go_simp;have HJ10:=zZ (HJ9.out.ext kD);refine (jF _ ch _ (HI.out.ext (HW9.out.trans kD)) HCW.out.2.2.2.2.2.2).mono ?_;rintro e w10 ⟨v10,rfl,hO10,hx10⟩;have hO:=gM hO10 (base':=gI+1) (by have:=HJ10.out.g3;omega);obtain⟨A0,c0,rfl⟩:=ig hO;have HJ11:=zZ (HJ10.out.ext hx10);have HO:=zZ hO;have kS2:=yJ (kS.1.ext hx10) (yJ (kS.2.1.ext hx10) (kS.2.2.ext hx10));clear hO10 hx10 hO HJ10;refine hK.out _ _ (fun _=>kS2) ?_;clear hK K;try simp only[kA]
       refine zO 15 (fun K hK=>?_);go_simp;refine hK.out _ _ (fun _=>kS2) ?_;clear hK K;try simp only[kA]
       refine zO 16 (fun K hK=>?_);go_simp;obtain⟨gp,hgp⟩:=nm w10.heap.size;obtain⟨w11,hw11⟩:=nm ((w10.alloc (.cells #[B C ec,B C eg,B C ct,D A0 ch.length c0,B C sr,B C q] 80)):World);have hx11:ab w10 w11:=by rw[hw11];exact (zE _).alloc _
       have B11:Bx (Bk w11 gp #[B C ec,B C eg,B C ct,D A0 ch.length c0,B C sr,B C q] 80):=⟨by rw[hw11,hgp];exact Bk.new _ _ _⟩
       have HJ12:=zZ (HJ11.out.ext hx11);have HO2:=zZ (ao HO.out hx11);have kS3:=yJ (kS2.1.ext hx11) (yJ (kS2.2.1.ext hx11) (kS2.2.2.ext hx11));rw[<-hw11,<-hgp];clear hw11 hgp hx11 HJ11 HO;refine hK.out _ _ (fun _=>kS3) ?_;clear hK K;try simp only[kA]
       refine zO 17 (fun K hK=>?_);refine CM (by rfl) _ _ _ (by rfl) (gI+1) 80 iP _ 6 64 underlying43 hiP hP0 hP1 hP2 rfl (by omega) (oU (gI+1) w11) AG nG cG (bW (af s L) k) (by rfl) HNG.out.symm HJ12.out.pg gp [B C ec,B C eg,B C ct,D A0 ch.length c0,B C sr,B C q] (Gs ⟨⟨⟨t,sr,q⟩,1,str,ct,ch,⟨ts,tq⟩,⟨lp,lc,lg,lv⟩⟩,⟨ep,ec,eg,ev⟩,sx,decide (sx=0)⟩) (by rfl) (World.news_of_block B11.out) rfl (by simp[Value.oneCell']) ⟨A0,ch.length,c0,rfl,HO2.out,Ky HWF2.out HCW.out,fun _ h=>HI.out.mem h,HCW.out.2.2.2.2.2.2⟩ (by omega) (by omega) HJ12.out.g3 ?_;intro g7 c7 w12 hown7 hg7;obtain⟨hp1,hp2⟩:=HJ12.out.addG hown7 hg7;have hb2:=HJ12.out.keepG hg7 kS3.2.1 (by decide);have hb3:=HJ12.out.keepG hg7 kS3.2.2 (by decide);have HP2:=zZ hp2;have j1:=hp1.c 1 rfl;have f1:=hp1.froz 1;have kS4:=yJ hp1 (yJ hb2 hb3);clear hown7 hg7 hp2 hb3;change K (Act.put _ (some 140) _) w12;refine hK.out _ _ (fun _=>kS4) ?_;clear hK K;try simp only[kA]
       refine zO 18 (fun K hK=>?_);go_simp;refine hK.out _ _ (fun _=>kS4) ?_;clear hK K;try simp only[kA]
       refine zO 19 (fun K hK=>?_);go_simp;refine hK.out _ _ (fun h=>absurd rfl h) ?_;clear hK K;refine zD ?_;clear kS kS2 kS3;go_wp2_with fail;go_meet
       have hfin:=HP2.out;rw[<-HPG.out]at hfin;exact⟨_,⟨hfin,hb2.turn (rQ _ _ _ _) (gQ.blk hp1) (by decide)⟩⟩
      ·have h1b:(sv==1)=false:=by simp[h1]
       have HPG:=zZ (kG HRX2.out (fun h=>h1 (by rw[HSV.out];exact h.2)));replace h1:=zZ h1;go_wp2_with fail;go_meet
       exact⟨_,⟨by rw[HPG.out];exact HJ9.out,HF9.out.at_ 1 rfl⟩⟩
     case rest =>
     obtain⟨vG',HM⟩:=hcut;clear HJ9 HW9 HF9 e0 e1 e2 e3 e4 e5 e6;obtain⟨e0,e1,e2,e3,e4,e5,e6⟩:=(HM.out.2).p7 rfl;have j0:=HM.out.1.it.c 0 rfl;have HY:Bx (dF.wf ⟨⟨sr,q⟩,sv,⟨ep,ec,eg,ev⟩⟩/\lN (af s L) k ⟨⟨⟨t,sr,q⟩,1,str,ct,ch,⟨ts,tq⟩,⟨lp,lc,lg,lv⟩⟩,⟨ep,ec,eg,ev⟩,sx,decide (sx=0)⟩=⟨⟨sr,q⟩,sv,⟨ep,ec,eg,ev⟩⟩):=⟨by
      have h:=IW (R:=af s L) (k:=k) HWF2.out;have h2:lN (af s L) k ⟨⟨⟨t,sr,q⟩,1,str,ct,ch,⟨ts,tq⟩,⟨lp,lc,lg,lv⟩⟩,⟨ep,ec,eg,ev⟩,sx,decide (sx=0)⟩=⟨⟨sr,q⟩,sv,⟨ep,ec,eg,ev⟩⟩:=by unfold lN;rw[<-HSV.out];rfl
      rw[h2]at h;exact⟨h,h2⟩⟩
     go_upto_region 32 with (at_builtin;(refine dq _ rfl (.tmp 143) (.tmp 145) 42 rfl (gI+1) 103 iC _ 7 56 underlying42 hiC hC0 hC1 hC2 rfl (by omega) (cU wa) (D AS nS cS) (aZ (af s L) k) rfl (HM.out.1.st.ext ((zE _).alloc _)) _ #[B C sr,B C q,B C sv,B C ep,B C ec,B C eg,B C ev] _ (⟨⟨sr,q⟩,sv,⟨ep,ec,eg,ev⟩⟩:dF) rfl (heap_alloc_new _ _) rfl (by simp[Value.oneCell']) ⟨rfl,HY.out.1⟩ (by have:=HNS.out;omega) (by omega) (by have:=HM.out.1.g3;simp;omega) ?_;intro v5 w5 hown5 hg5;obtain⟨A5,c5,rfl⟩:=hown5.form;have hp:=(HM.out.1.ext ((zE _).alloc _)).addS hown5 hg5;have HP2:=zZ hp.2;have j0:=hp.1.c 0 rfl;have f0:=hp.1.froz 0;clear hown5 hg5 hp))
     go_wp2_with fail;go_roundw
     case rel=>exact⟨k+1,_,_,by go_num,by omega,⟨by rw[xh HRX2.out rfl,HY.out.2];have h:=HP2.out;simp only[yU,xQ,List.length_nil,yV]at h;exact h⟩⟩
     case measure=>simp[intOf];omega
    ·obtain rfl:n=k:=by omega
     obtain⟨AS,cS,hvS⟩:=HJ.out.st.form;obtain⟨AG,cG,hvG⟩:=HJ.out.pg.form;obtain⟨nS,hnS⟩:=nm ((aZ (af s L) n).length);obtain⟨nG,hnG⟩:=nm ((bW (af s L) n).length);rw[<-hnS]at hvS;rw[<-hnG]at hvG;subst hvS;subst hvG;have HLS:Bx ((aZ (af s L) n).length<=1000000/\(bW (af s L) n).length<=1000000):=⟨by have h1:=uV (ry (af s L)) (List.range n);have h2:=uV (Pm (af s L)) (List.range n);rw[wQ]at h1 h2;exact⟨yR h1 (by omega),yR h2 (by omega)⟩⟩
     clear hnS hnG;have j0:=HJ.out.it.c 0 rfl;go_wp2_with fail;refine (Et (gI+1) _ _ _ wa HLS.out.1 HJ.out.st).mono ?_;rintro e w10 ⟨rfl,xs',hq1,hq2,hO,hg⟩;have HJ10:=zZ (HJ.out.srtS hO hg);have HQ:=zZ (yJ hq1 hq2);clear hO hg hq1 hq2 HJ j0;have j1:=HJ10.out.it.c 1 rfl;go_wp2_with fail;refine (Ef (gI+1) _ _ _ (oU (gI+1) w10) (fun _ _ h=>by obtain⟨A,n,c,h1,_⟩:=h;exact⟨A,n,c,h1⟩) HLS.out.2 HJ10.out.pg).mono ?_;rintro e w11 ⟨rfl,ys',hr1,hr2,hO,hg⟩;have HJ11:=zZ (HJ10.out.srtG hO hg);have HQ2:=zZ (yJ hr1 hr2);clear hO hg hr1 hr2 HJ10 j1;obtain⟨j0,j1⟩:=(HJ11.out.it).p2 rfl;have HF12:=zZ (HF3.out.ext (HR.out.x.trans HJ11.out.x));obtain⟨r0,r1⟩:=(HF12.out.at_ 1 rfl).p2 rfl;have f0:=(HF12.out.at_ 1 rfl).froz;have f1:=f0;go_wp2_with fail;have h9:=HF12.out.setAll 1 rfl [D AS nS cS,D AG nG cG] rfl;refine bodyPost_ret (v:=.tuple #[.agg #[D AS nS cS,D AG nG cG],B C 0]) (by simp[results,results10,go_sem,r0,r1]) rfl ⟨⟨_,by rw[HCK.out],?_⟩,h9.xt⟩;have hu:=pp (s:=s) (l:=L) (G5 HQ.out.1 (by rw[HNL2.out];exact Ed (by rw[HLL.out];exact sN)) HQ.out.2) (G5 HQ2.out.1 (by rw[HNL2.out];exact KM) HQ2.out.2) (by rw[<-HNL2.out];exact HQ.out.1) (by rw[<-HNL2.out];exact HQ2.out.1);unfold rM;rw[if_pos HCK.out,<-HLL.out,hu];have hpw:p<wa.heap.size:=by have:=HF3.out.xt.size;have:=HR.out.x.size;omega
     have hI:=HJ11.out.fin hpw (HF12.out.at_ 1 rfl) [D AS nS cS,D AG nG cG];exact hI
end Go.Proofs.YtpaidaphacoblaaGreatDoor

