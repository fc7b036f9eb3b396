import Derived.Test.YtpaidaphacoblaaGreatDoorK29
set_option linter.all false
set_option maxRecDepth 100000
set_option maxHeartbeats 0
namespace Go.Proofs.YtpaidaphacoblaaGreatDoor
open Go.Value renaming int→B,slice→D
open Go.IntKind renaming i64→C
open Go.RowKit _root_.Go.Proofs.Tryz
variable {i p:Nat} {c:Int} {b:Bool}
theorem tK(x:Int)(w:World):Calls prog 69 #[B C x] w fun e w'=>e=.returned (.bool (!fE x))/\w=w':=by
 go_enter func69,ntmps69
 go_wp2
 all_goals (go_ret;exact⟨aa (by unfold fE;first|(simp;done)|(simp;omega)|(rw[yE];simp;done)|(rw[yE];simp;omega)),rfl⟩)
theorem wy(v:Value)(l:List Int)(w:World)(h:ak p w v l) :
  Calls prog 102 #[v,.func (.func 69) #[] #[]] w fun e w'=>e=.returned (B C (Cl (fun x=>!fE x) l))/\w=w':=by
 obtain⟨A,n,c,rfl,hnc,hc,hnn,HL⟩:=h.open_;have H:=zZ h;clear h;go_enter func102,ntmps102
 go_wp2
 go_loop [8] (fun i=>∃k:Nat,k<=n/\i=B C k/\Hid ((l.take k).all (fun x=>!!fE x)=true)) (fun i=>n-(intOf i).toNat)
 case atStart=>exact⟨0,xL _,rfl,by simp[Hid]⟩
 case round =>
  obtain⟨k,hk,rfl,HK⟩:=hrel;by_cases hlt:k<n
  ·obtain⟨b,off,x,rfl,hcx,HX,hx1,hx2⟩:=H.out.at_ hlt;cases hb:fE x
   ·have HB:=zZ hb;clear hb;go_wp2_with (go_at_call 69;refine (tK _ _).mono ?_;rintro e w' ⟨rfl,rfl⟩;rw[HB.out]);go_ret
    exact⟨ag (Im HX.out (by simp[HB.out]) HK.out),rfl⟩
   ·have HB:=zZ hb;clear hb;go_wp2_with (go_at_call 69;refine (tK _ _).mono ?_;rintro e w' ⟨rfl,rfl⟩;rw[HB.out]);go_round
    case rel=>exact⟨k+1,by omega,by go_num,by show (l.take (k+1)).all _=true;rw[Ak HX.out,HK.out];simp[HB.out]⟩
    case measure=>simp[intOf];omega
  ·go_wp2
   go_ret
   have:=HK.out;rw[bh (by have:=HL.out;omega)]at this;exact⟨ag (E5 this),rfl⟩
theorem pK(v:Value)(l:List Int)(w:World)(h:ak p w v l) :
  Calls prog 68 #[v,.func (.func 69) #[] #[]] w fun e w'=>e=.returned (.bool (l.any (fun x=>!fE x)))/\w=w':=by
 have H:=zZ h;clear h;go_enter func68,ntmps68
 go_wp2_with (go_at_call 102;refine (wy _ l _ H.out).mono ?_;rintro e w' ⟨rfl,rfl⟩);go_ret
 exact⟨aa (Hc _ _),rfl⟩
theorem Dy{s:dl}(h:dU s)(c:Int):Ae s.xp (fun y=>bg y.cand c):=by
 refine Jh h.asc_ (fun x y hxy hc=>?_) (fun x y hxy hc=>?_)
 ·unfold vr at hxy;simp only[decide_eq_true_eq]at hxy;rcases bJ y.cand c with ⟨a,e⟩|⟨a,e⟩|⟨a,e⟩<;>rcases bJ x.cand c with ⟨b,f⟩|⟨b,f⟩|⟨b,f⟩<;>(try simp only at hc⊢)<;>omega
 ·unfold vr at hxy;simp only[decide_eq_true_eq]at hxy;rcases bJ y.cand c with ⟨a,e⟩|⟨a,e⟩|⟨a,e⟩<;>rcases bJ x.cand c with ⟨b,f⟩|⟨b,f⟩|⟨b,f⟩<;>(try simp only at hc⊢)<;>omega
theorem IF{s:dl}(h:dU s)(hf:tF s.xp (fun y=>bg y.cand c) i b):(b=true->∃x,s.xp[i]?=some x/\fo s.xp c=some x)/\(b=false->fo s.xp c=none):=by refine hf.find (Dy h c) fun x _=>?_;rcases bJ x.cand c with ⟨a,e⟩|⟨a,e⟩|⟨a,e⟩<;>(try simp only[decide_eq_true_eq])<;>omega
theorem qE(v vc:Value)(s:dl)(lp lc lg lv:Int)(ch:List Int)(w:World){q:Nat}(hp:p<w.heap.size)(hs:aR p w v s)(hc:ak q w vc ch)(hl:cJ.wf ⟨lp,lc,lg,lv⟩)(hok:dU s) :
  Calls prog 33 #[v,.agg #[B C lp,B C lc,B C lg,B C lv],vc] w fun e w'=>e=.returned (.bool (bH s ⟨lp,lc,lg,lv⟩ ch))/\ab w w':=by
 obtain⟨vP,vB,vX,rfl,hP,hB,hX,hnum⟩:=hs;obtain⟨AP,nP,cP,rfl,hnP,hcP,hmP,HLP⟩:=hP.open_;obtain⟨AB,nB,cB,rfl,hnB,hcB,hmB,HLB⟩:=hB.open_;obtain⟨AX,nX,cX,rfl,hnX,hcX,hmX,HLX⟩:=hX.open_;obtain⟨AC,nC,cC,rfl,hnC,hcC,hmC,HLC⟩:=hc.open_;have HR0:Bx (jg p w (D AP nP cP) s.pap/\l9 p w (D AB nB cB) s.bk/\jh p w (D AX nX cX) s.xp/\ak q w (D AC nC cC) ch):=⟨⟨hP,hB,hX,hc⟩⟩
 have HLG:Bx (aU lg):=⟨hl.2.2.1⟩
 have HOK:Bx (dU s):=⟨hok⟩
 have hx60:s.xp.length<=60:=hok.len.2.2;obtain⟨hl1,hl2⟩:=hl.2.2.1;clear hP hB hX hc hnum hl hok;obtain⟨w1,hw1⟩:=nm (((w.alloc (.cells #[B C s.num,D AP nP cP,D AB nB cB,D AX nX cX] 29)).alloc (.cells #[B C lp,B C lc,B C lg,B C lv] 39)):World);have HF:Bx (aA w w1 [(w.heap.size,#[B C s.num,D AP nP cP,D AB nB cB,D AX nX cX],29),(w.heap.size+1,#[B C lp,B C lc,B C lg,B C lv],39)]):=⟨by rw[hw1];exact ((aA.start w).push _ _ rfl).push _ _ (by simp)⟩
 obtain⟨z0,z1,z2,z3⟩:=(HF.out.at_ 0 rfl).p4 rfl;obtain⟨l0,l1,l2,l3⟩:=(HF.out.at_ 1 rfl).p4 rfl;go_enter func33,ntmps33
 go_upto_region 1 with (fail)
 rw[<-hw1];clear hw1;go_wp2_with fail;refine (Jg _ s.xp lc _ (HR0.out.2.2.1.ext (lR.stab p) HF.out.xt) (Dy HOK.out lc) (by omega)).mono ?_;rintro e w2 ⟨⟨i,b,rfl,hfd⟩,hx2⟩;have HFD:=zZ (IF HOK.out hfd);have HF2:=bx (HF.out.ext hx2);have hib:i<=nX:=by have:=hfd.1;have:=HLX.out;omega
 clear HF hx2 z0 z1 z2 z3 l0 l1 l2 l3 hfd;obtain⟨z0,z1,z2,z3⟩:=(HF2.out.at_ 0 rfl).p4 rfl;obtain⟨l0,l1,l2,l3⟩:=(HF2.out.at_ 1 rfl).p4 rfl;go_upto_region 2 with (fail)
 by_cases hpn:lp=s.num;case neg =>
  have HE:=zZ (show bH s ⟨lp,lc,lg,lv⟩ ch=false from sC hpn);have hcb:(lp != s.num)=true:=by simp[hpn]
  replace hpn:=zZ hpn;refine zQ 99 fun wd kS=>?_;refine zS 20 [(0,18),(1,19),(2,20),(3,21),(4,22),(5,23),(6,24),(7,25),(8,26),(9,27),(10,28),(11,29),(12,30),(13,31),(14,32),(15,33),(16,34),(17,35),(18,36),(19,37)] kS ?_;iterate 6 refine zT ?_ (y:=by intro wk hk;obtain⟨_,_⟩:=zkc2 hk z0 l0;go_simp;try with_reducible rfl)
  iterate 2 (apply zK;exact⟨rfl,rfl⟩;simp only[kA];exact rfl)
  iterate 2 refine zT ?_ (y:=by intro wk hk;obtain⟨_,_⟩:=zkc2 hk z0 l0;go_simp;try with_reducible rfl)
  iterate 9 (apply zK;exact⟨rfl,rfl⟩;simp only[kA];exact rfl)
  refine zT ?_ (y:=by intro wk hk;obtain⟨_,_⟩:=zkc2 hk z0 l0;go_simp;try with_reducible rfl);refine zN (zD ?_);go_wp2_with fail;go_ret
  exact⟨aa HE.out.symm,HF2.out.xt.trans kS⟩
 have hcb:(lp != s.num)=false:=by simp[hpn]
 have HPN:=zZ hpn;clear hpn;cases b with
 |false =>
  have HE:=zZ (show bH s ⟨lp,lc,lg,lv⟩ ch=false from qO (HFD.out.2 rfl));refine zQ 99 fun wd kS=>?_;refine zS 20 [(0,18),(1,19),(2,20),(3,21),(4,22),(5,23),(6,24),(7,25),(8,26),(9,27),(10,28),(11,29),(12,30),(13,31),(14,32),(15,33),(16,34),(17,35),(18,36),(19,37)] kS ?_;iterate 10 refine zT ?_ (y:=by intro wk hk;obtain⟨_,_⟩:=zkc2 hk z0 l0;go_simp;try with_reducible rfl)
  iterate 9 (apply zK;exact⟨rfl,rfl⟩;simp only[kA];exact rfl)
  refine zT ?_ (y:=by intro wk hk;obtain⟨_,_⟩:=zkc2 hk z0 l0;go_simp;try with_reducible rfl);refine zN (zD ?_);go_wp2_with fail;go_ret
  exact⟨aa HE.out.symm,HF2.out.xt.trans kS⟩
 |true =>
  obtain⟨⟨xc,xe,xv⟩,hxi,hfx⟩:=HFD.out.1 rfl;have hiX:i<nX:=by have:=(zY.1 hxi).1;have:=HLX.out;omega
  obtain⟨bX,oX,_,_,rfl,-⟩:=HR0.out.2.2.1.at_ hiX;obtain⟨yc,ye,yv,HY,x0,x1,x2⟩:=jh.read HR0.out.2.2.1 HF2.out.xt.xt hiX;obtain⟨rfl,rfl,rfl⟩:xc=yc/\xe=ye/\xv=yv:=by have:=HY.out;rw[hxi]at this;injection this with this;injection this with a b c;exact⟨a,b,c⟩
  have HX:=zZ hfx;have hxm:=(qR hfx).1;have hxb:=rL HOK.out hxm;simp only at hxb;obtain⟨xb1,xb2,xb3,xb4,xb5,xb6⟩:=hxb;obtain⟨pq,bk,hpq,hbk,-,-,-,-⟩:=rT HOK.out xb3 xb4;have hbks:=HOK.out.bks;obtain⟨r,rfl⟩:=zG xb3;rw[yC]at hpq hbk;have hrP:r<nP:=by have:=HLP.out;omega
  have hrB:r<nB:=by have:=HLB.out;omega
  clear hfx hxm HFD hxi HY x0 x1;by_cases hv:(r:Int)=lv;case neg =>
   have HE:=zZ (show bH s ⟨lp,lc,lg,lv⟩ ch=false from tG HX.out hv);have hvb:((r:Int)!=lv)=true:=by simp[hv]
   replace hv:=zZ hv;refine zQ 99 fun wd kS=>?_;refine zS 20 [(0,18),(1,19),(2,20),(3,21),(4,22),(5,23),(6,24),(7,25),(8,26),(9,27),(10,28),(11,29),(12,30),(13,31),(14,32),(15,33),(16,34),(17,35),(18,36),(19,37)] kS ?_;iterate 20 refine zT ?_ (y:=by intro wk hk;obtain⟨_,_,_,_,_⟩:=zkc5 hk z0 z3 l0 l3 x2;go_simp;try with_reducible rfl)
   refine zN (zD ?_);go_wp2_with fail;go_ret
   exact⟨aa HE.out.symm,HF2.out.xt.trans kS⟩
  subst hv;have hvb:((r:Int)!=(r:Int))=false:=by simp
  refine zQ 99 fun wd kS=>?_;refine zS 20 [(0,18),(1,19),(2,20),(3,21),(4,22),(5,23),(6,24),(7,25),(8,26),(9,27),(10,28),(11,29),(12,30),(13,31),(14,32),(15,33),(16,34),(17,35),(18,36),(19,37)] kS ?_;iterate 20 refine zT ?_ (y:=by intro wk hk;obtain⟨_,_,_,_,_⟩:=zkc5 hk z0 z3 l0 l3 x2;go_simp;try with_reducible rfl)
  refine zN (zD ?_);have HF3:=bx (HF2.out.ext kS);clear kS HF2 z0 z1 z2 z3 l0 l1 l2 l3 x2 hvb;obtain⟨bP,oP,_,_,rfl,-⟩:=HR0.out.1.at_ hrP;obtain⟨bB,oB,_,_,rfl,-⟩:=HR0.out.2.1.at_ hrB;obtain⟨Ab,nb,cb,b0,hIB,HNB⟩:=lJ HR0.out.2.1 hbk HF3.out.xt.xt;obtain⟨Aq,nq,cq,q0,q1,q2,hIQ,hq1,hq2⟩:=kn HR0.out.1 hpq HF3.out.xt.xt;obtain⟨pc,pv,pps⟩:=pq;simp only at q0 q1 q2 hIQ hq1 hq2;have HF0:=zZ (show bH s ⟨lp,lc,lg,(r:Int)⟩ ch=(decide (0<=lg/\lg<(bk.length:Int))&&(decide (ch.length=(dr pc pv pps bk lg).length)&&ch.all fE)) by rw[qH HX.out (by simp only[yC];exact hpq) (by simp only[yC];exact hbk),HPN.out,decide_eq_true rfl,decide_eq_true rfl,yK,yK])
  have HI:Bx (oa p wd (D Aq nq cq) pps/\oc p wd (D Ab nb cb) bk):=⟨⟨hIQ,hIB⟩⟩
  clear hpq hbk hbks hIQ hIB hq1 hq2;obtain⟨z0,z1,z2,z3⟩:=(HF3.out.at_ 0 rfl).p4 rfl;obtain⟨l0,l1,l2,l3⟩:=(HF3.out.at_ 1 rfl).p4 rfl;go_upto_region 5 with (fail)
  have hx4:ab wd (wd.alloc (.cells #[D Ab nb cb] 61)):=(zE _).alloc _;have HF4:Bx (aA w (wd.alloc (.cells #[D Ab nb cb] 61)) [(w.heap.size,#[B C s.num,D (some ⟨bP,oP,none⟩) nP cP,D (some ⟨bB,oB,none⟩) nB cB,D (some ⟨bX,oX,none⟩) nX cX],29),(w.heap.size+1,#[B C lp,B C lc,B C lg,B C (r:Int)],39),(wd.heap.size,#[D Ab nb cb],61)]):=⟨HF3.out.push _ _ rfl⟩
  have HI4:Bx (oa p (wd.alloc (.cells #[D Ab nb cb] 61)) (D Aq nq cq) pps/\oc p (wd.alloc (.cells #[D Ab nb cb] 61)) (D Ab nb cb) bk):=⟨HI.out.1.ext (bC.stab p) hx4,HI.out.2.ext (RI.stab p) hx4⟩
  replace q0:=hx4.cell q0;replace q1:=hx4.cell q1;replace q2:=hx4.cell q2;clear hx4 HI z0 z1 z2 z3 l0 l1 l2 l3 b0 HF3;obtain⟨w4,hw4⟩:=nm ((wd.alloc (.cells #[D Ab nb cb] 61)):World);rw[<-hw4]at HF4 HI4 q0 q1 q2;rw[<-hw4];clear hw4;obtain⟨gb,hgb⟩:=nm wd.heap.size;rw[<-hgb]at HF4;rw[<-hgb];clear hgb;obtain⟨z0,z1,z2,z3⟩:=(HF4.out.at_ 0 rfl).p4 rfl;obtain⟨l0,l1,l2,l3⟩:=(HF4.out.at_ 1 rfl).p4 rfl;have b0:=(HF4.out.at_ 2 rfl).c 0 rfl;by_cases hg0:0<=lg/\lg<(nb:Int)
  case neg =>
   have HE:=zZ (show bH s ⟨lp,lc,lg,(r:Int)⟩ ch=false by rw[HF0.out,decide_eq_false (by have:=HNB.out;omega)];rfl);go_wp2_with fail;all_goals first
    |(exfalso;omega)
    |(go_ret;exact⟨aa HE.out.symm,HF4.out.xt⟩)
  obtain⟨hg1,hgn⟩:=hg0;have HF1:=zZ (show bH s ⟨lp,lc,lg,(r:Int)⟩ ch=(decide (ch.length=(dr pc pv pps bk lg).length)&&ch.all fE) by rw[HF0.out,decide_eq_true (by have:=HNB.out;omega),yK]);have hgd:decide (lg<0)=false:=decide_eq_false (by omega);have hge:decide ((nb:Int)<=lg)=false:=decide_eq_false (by omega);go_upto_region 7 with (fail)
  refine zQ 99 fun we kS=>?_;refine zS 11 [(0,55),(1,56),(2,57),(3,58),(4,59),(5,60),(6,61),(7,62),(8,63),(9,64),(10,65)] kS ?_;iterate 11 refine zT ?_ (y:=by intro wk hk;obtain⟨_,_,_,_,_,_,_⟩:=zkc7 hk z1 l2 l3 q0 q1 q2 b0;go_simp;try with_reducible rfl)
  refine zN (zO 11 (fun K hK=>?_));go_simp;refine (Db pc pv lg _ _ pps bk _ (p:=p) (zB hp (HF4.out.xt.trans kS).size) (HI4.out.1.ext (bC.stab p) kS) (HI4.out.2.ext (RI.stab p) kS) HLG.out).mono ?_;rintro e w6 ⟨v6,rfl,hI6,hx6⟩;have kS2:ab w4 w6:=kS.trans hx6;obtain⟨A6,n6,c6,rfl,-,-,hn6,HL6⟩:=hI6.open_;clear hI6;refine hK.out _ _ (fun _=>kS2) ?_;clear hK K;try simp only[kA]
  refine zS 1 [(12,67)] kS2 ?_;refine zT ?_ (y:=by intro wk hk;obtain⟨_,_,_,_,_,_,_⟩:=zkc7 hk z1 l2 l3 q0 q1 q2 b0;go_simp;try with_reducible rfl);refine zN ?_;by_cases hln:nC=n6
  ·have HE:=zZ (show bH s ⟨lp,lc,lg,(r:Int)⟩ ch=ch.all fE by rw[HF1.out,decide_eq_true (by have:=HLC.out;have:=HL6.out;omega),yK]);subst hln;have hnb:((nC:Int)!=(nC:Int))=false:=by simp
   refine zS 1 [(13,68)] kS2 ?_;refine zT ?_ (y:=by intro wk hk;obtain⟨_,_,_,_,_,_,_⟩:=zkc7 hk z1 l2 l3 q0 q1 q2 b0;go_simp;try with_reducible rfl);refine zN (zD ?_);go_wp2_with fail;refine (pK _ ch _ (HR0.out.2.2.2.ext (HF4.out.xt.trans kS2))).mono ?_;rintro e w7 ⟨rfl,rfl⟩;go_wp2_with fail;go_ret
   exact⟨aa (by rw[HE.out];exact IG fE ch),HF4.out.xt.trans kS2⟩
  ·have HE:=zZ (show bH s ⟨lp,lc,lg,(r:Int)⟩ ch=false by rw[HF1.out,decide_eq_false (by have:=HLC.out;have:=HL6.out;omega)];rfl);have hne:((nC:Int)!=(n6:Int))=true:=by simp;omega
   refine zS 1 [(13,68)] kS2 ?_;refine zT ?_ (y:=by intro wk hk;obtain⟨_,_,_,_,_,_,_⟩:=zkc7 hk z1 l2 l3 q0 q1 q2 b0;go_simp;try with_reducible rfl);refine zN (zD ?_);go_wp2_with fail;go_ret
   exact⟨aa HE.out.symm,HF4.out.xt.trans kS2⟩
theorem sH(v vc:Value)(s:dl)(lp lc lg lv:Int)(ch:List Int)(w:World){q:Nat}(hp:p<w.heap.size)(hs:aR p w v s)(hc:ak q w vc ch)(hl:cJ.wf ⟨lp,lc,lg,lv⟩) :
  Calls prog 80 #[v,.agg #[B C lp,B C lc,B C lg,B C lv],vc] w fun e w'=>e=.returned (.bool (eC s ⟨lp,lc,lg,lv⟩ ch))/\ab w w':=by
 have HS0:=zZ hs;obtain⟨vP,vB,vX,rfl,hP,hB,hX,hnum⟩:=hs;obtain⟨AP,nP,cP,rfl,-⟩:=hP.open_;obtain⟨AB,nB,cB,rfl,-⟩:=hB.open_;obtain⟨AX,nX,cX,rfl,-⟩:=hX.open_;obtain⟨AC,nC,cC,rfl,-⟩:=hc.open_;have HC:=zZ hc;have HL:=zZ hl;clear hP hB hX hc hnum hl;obtain⟨w1,hw1⟩:=nm (((w.alloc (.cells #[B C s.num,D AP nP cP,D AB nB cB,D AX nX cX] 29)).alloc (.cells #[B C lp,B C lc,B C lg,B C lv] 39)):World);have HF:Bx (aA w w1 [(w.heap.size,#[B C s.num,D AP nP cP,D AB nB cB,D AX nX cX],29),(w.heap.size+1,#[B C lp,B C lc,B C lg,B C lv],39)]):=⟨by rw[hw1];exact ((aA.start w).push _ _ rfl).push _ _ (by simp)⟩
 obtain⟨z0,z1,z2,z3⟩:=(HF.out.at_ 0 rfl).p4 rfl;go_enter func80,ntmps80
 go_upto_region 1 with (fail)
 rw[<-hw1];clear hw1;go_wp2_with fail;refine (mf _ s _ (HS0.out.ext HF.out.xt)).mono ?_;rintro e w2 ⟨rfl,hx2⟩;have HF2:=bx (HF.out.ext hx2);clear HF hx2 z0 z1 z2 z3;obtain⟨z0,z1,z2,z3⟩:=(HF2.out.at_ 0 rfl).p4 rfl;obtain⟨l0,l1,l2,l3⟩:=(HF2.out.at_ 1 rfl).p4 rfl;by_cases hck:aC s=0
 ·have HE:=zZ (show eC s ⟨lp,lc,lg,lv⟩ ch=bH s ⟨lp,lc,lg,lv⟩ ch by unfold eC;rw[decide_eq_true hck];rfl);have HOK:Bx (dU s):=⟨iL.1 hck⟩
  rw[hck];clear hck;go_wp2_with fail;refine (qE _ _ s lp lc lg lv ch _ (p:=p) (q:=q) (zB hp HF2.out.xt.size) (HS0.out.ext HF2.out.xt) (HC.out.ext HF2.out.xt) HL.out HOK.out).mono ?_;rintro e w3 ⟨rfl,hx3⟩;go_wp2_with fail;go_ret
  exact⟨aa HE.out.symm,HF2.out.xt.trans hx3⟩
 ·have HE:=zZ (show eC s ⟨lp,lc,lg,lv⟩ ch=false by unfold eC;rw[decide_eq_false hck];rfl);have hcb:(aC s==0)=false:=by simp[hck]
  go_wp2_with fail;go_ret
  exact⟨aa HE.out.symm,HF2.out.xt⟩
theorem Tryz.infoSst:(prog.info? 103).map (fun i=>(i.zero,i.size,i.bytes))=some (some (.agg #[B C 0,B C 0,B C 0,B C 0,B C 0,B C 0,B C 0]),7,56):=by kernel_rfl
theorem Tryz.infoPg:(prog.info? 80).map (fun i=>(i.zero,i.size,i.bytes))=some (some (.agg #[B C 0,B C 0,B C 0,D none 0 0,B C 0,B C 0]),6,64):=by kernel_rfl
def Rc(p:Nat)(w:World)(o:Option Pg)(e:Ending)(w':World):Prop :=
 ∃(xc xg xt xs xq:Int) (xch:List Int) (A:Option Addr) (n cc:Nat),e=.returned (.tuple #[.agg #[B C xc,B C xg,B C xt,D A n cc,B C xs,B C xq],.bool o.isSome]) /\
  o.getD ⟨0,0,0,[],⟨0,0⟩⟩=⟨xc,xg,xt,xch,⟨xs,xq⟩⟩/\ak p w (D A n cc) xch/\Pg.wf ⟨xc,xg,xt,xch,⟨xs,xq⟩⟩/\ab w w'
theorem Oh:Pg.wf ⟨0,0,0,[],⟨0,0⟩⟩:=⟨⟨by decide,by decide⟩,⟨by decide,by decide⟩,⟨by decide,by decide⟩,⟨⟨by decide,by decide⟩,⟨by decide,by decide⟩⟩,by decide⟩
theorem kR(v:Value)(s:dl)(c:Int)(w:World)(hs:aR p w v s)(hok:dU s) :
  Calls prog 52 #[v,B C c] w fun e w'=>(∃a b d:Int,e=.returned (.tuple #[.agg #[B C a,B C b,B C d],.bool (fo s.xp c).isSome])/\(fo s.xp c).getD ⟨0,0,0⟩=⟨a,b,d⟩)/\ab w w':=by
 obtain⟨vP,vB,vX,rfl,hP,hB,hX,hnum⟩:=hs;obtain⟨AP,nP,cP,rfl,-⟩:=hP.open_;obtain⟨AB,nB,cB,rfl,-⟩:=hB.open_;obtain⟨A,n,cc,rfl,hnc,hcc,hnn,HL⟩:=hX.open_;have HX:Bx (jh p w (D A n cc) s.xp):=⟨hX⟩
 have HOK:Bx (dU s):=⟨hok⟩
 have hx60:s.xp.length<=60:=hok.len.2.2;clear hP hB hX hnum hok;obtain⟨w1,hw1⟩:=nm (((w.alloc (.cells #[B C s.num,D AP nP cP,D AB nB cB,D A n cc] 29)).alloc (.cells #[B C 0,B C 0,B C 0] 56)):World);have HF:Bx (aA w w1 [(w.heap.size,#[B C s.num,D AP nP cP,D AB nB cB,D A n cc],29),(w.heap.size+1,#[B C 0,B C 0,B C 0],56)]):=⟨by rw[hw1];exact ((aA.start w).push _ _ rfl).push _ _ (by simp)⟩
 go_enter func52,ntmps52
 go_upto_region 1 with (fail)
 rw[<-hw1];clear hw1;have b3:=(HF.out.at_ 0 rfl).c 3 rfl;go_wp2_with fail;refine (Qd _ s.xp c _ (HX.out.ext (lR.stab p) HF.out.xt) (Dy HOK.out c) (by omega)).mono ?_;rintro e w2 ⟨⟨i,b,rfl,hfd⟩,hx2⟩;have HFD:=zZ (IF HOK.out hfd);have HF2:=bx (HF.out.ext hx2);clear HF hx2 b3 hfd;have b3:=(HF2.out.at_ 0 rfl).c 3 rfl;obtain⟨z0,z1,z2⟩:=(HF2.out.at_ 1 rfl).p3 rfl;have f0:=(HF2.out.at_ 1 rfl).froz;have f1:=f0;have f2:=f0;cases b with
 |false =>
  have HN:=zZ (HFD.out.2 rfl);go_wp2_with fail;have h9:=HF2.out.setAll 1 rfl [B C 0,B C 0,B C 0] rfl;refine bodyPost_ret (v:=.tuple #[.agg #[B C 0,B C 0,B C 0],.bool false]) (by simp[results,results52,go_sem,z0,z1,z2]) rfl ⟨⟨0,0,0,by rw[HN.out];rfl,by rw[HN.out];rfl⟩,h9.xt⟩
 |true =>
  obtain⟨⟨xc,xe,xv⟩,hxi,hfx⟩:=HFD.out.1 rfl;have HN:=zZ hfx;have hiX:i<n:=by have:=(zY.1 hxi).1;have:=HL.out;omega
  obtain⟨bX,oX,_,_,rfl,-⟩:=HX.out.at_ hiX;obtain⟨yc,ye,yv,HY,x0,x1,x2⟩:=jh.read HX.out HF2.out.xt.xt hiX;obtain⟨rfl,rfl,rfl⟩:xc=yc/\xe=ye/\xv=yv:=by have:=HY.out;rw[hxi]at this;injection this with this;injection this with a b c;exact⟨a,b,c⟩
  clear hfx hxi HY HFD;go_wp2_with fail;have h9:=HF2.out.setAll 1 rfl [B C xc,B C xe,B C xv] rfl;refine bodyPost_ret (v:=.tuple #[.agg #[B C xc,B C xe,B C xv],.bool true]) (by simp[results,results52,go_sem,z0,z1,z2]) rfl ⟨⟨xc,xe,xv,by rw[HN.out];rfl,by rw[HN.out];rfl⟩,h9.xt⟩
theorem OP{l:List Pg}(h:iT dW l)(c g:Int):Ae l (fun y=>eR y.cand y.page c g):=by
 refine Jh h (fun x y hxy hc=>?_) (fun x y hxy hc=>?_)<;>unfold dW at hxy<;>simp only[decide_eq_true_eq]at hxy <;>
  rcases cT y.cand y.page c g with ⟨a,e⟩|⟨a,e⟩|⟨a,e⟩<;>rcases cT x.cand x.page c g with ⟨b,f⟩|⟨b,f⟩|⟨b,f⟩<;>(try simp only at hc⊢)<;>omega
theorem Qt{l:List Pg}(h:iT dW l){g:Int}(hf:tF l (fun y=>eR y.cand y.page c g) i b):(b=true->∃x,l[i]?=some x/\dG l c g=some x)/\(b=false->dG l c g=none):=by refine hf.find (OP h c g) fun x _=>?_;simp only[yT,decide_eq_true_eq];rcases cT x.cand x.page c g with ⟨a,e⟩|⟨a,e⟩|⟨a,e⟩<;>omega
theorem NG{l:List dF}(h:iT bU l)(a b:Int):Ae l (fun y=>eR y.scan.s y.scan.q a b):=by
 refine Jh h (fun x y hxy hc=>?_) (fun x y hxy hc=>?_)<;>unfold bU et at hxy<;>simp only[decide_eq_true_eq]at hxy <;>
  rcases cT y.scan.s y.scan.q a b with ⟨k,e⟩|⟨k,e⟩|⟨k,e⟩<;>rcases cT x.scan.s x.scan.q a b with ⟨k',f⟩|⟨k',f⟩|⟨k',f⟩<;>(try simp only at hc⊢)<;>omega
theorem OK{l:List dF}(h:iT bU l){a:Int}(hf:tF l (fun y=>eR y.scan.s y.scan.q a c) i b):(b=true->∃x,l[i]?=some x/\Ku l ⟨a,c⟩=some x)/\(b=false->Ku l ⟨a,c⟩=none):=by refine hf.find (NG h a c) fun x _=>?_;simp only[decide_eq_true_eq];rw[gT.eq_iff];rcases cT x.scan.s x.scan.q a c with ⟨k,e⟩|⟨k,e⟩|⟨k,e⟩<;>(try simp only)<;>omega
theorem ke(v:Value)(t:r6)(c g:Int)(w:World)(ht:aK p w v t)(ha:iT dW t.pgs)(hn:t.pgs.length<=1000000) :
  Calls prog 46 #[v,B C c,B C g] w (Rc p w (dG t.pgs c g)):=by
 obtain⟨vS,vG,rfl,hS,hG⟩:=ht;obtain⟨AS,nS,cS,rfl,-⟩:=hS.open_;obtain⟨A,n,cc,rfl,hnc,hcc,hnn,HL⟩:=hG.open_;have HG:Bx (Ce p w (D A n cc) t.pgs):=⟨hG⟩
 have HA:Bx (iT dW t.pgs):=⟨ha⟩
 clear hS hG ha;obtain⟨w1,hw1⟩:=nm (((w.alloc (.cells #[D AS nS cS,D A n cc] 45)).alloc (.cells #[B C 0,B C 0,B C 0,D none 0 0,B C 0,B C 0] 80)):World);have HF:Bx (aA w w1 [(w.heap.size,#[D AS nS cS,D A n cc],45),(w.heap.size+1,#[B C 0,B C 0,B C 0,D none 0 0,B C 0,B C 0],80)]):=⟨by rw[hw1];exact ((aA.start w).push _ _ rfl).push _ _ (by simp)⟩
 go_enter func46,ntmps46
 go_upto_region 1 with (fail)
 rw[<-hw1];clear hw1;have b1:=(HF.out.at_ 0 rfl).c 1 rfl;go_wp2_with fail;refine (Qo _ t.pgs c g _ (HG.out.ext (lO.stab p) HF.out.xt) (OP HA.out c g) (by omega)).mono ?_;rintro e w2 ⟨⟨i,b,rfl,hfd⟩,hx2⟩;have HFD:=zZ (Qt HA.out hfd);have HF2:=bx (HF.out.ext hx2);clear HF hx2 b1 hfd;have b1:=(HF2.out.at_ 0 rfl).c 1 rfl;obtain⟨z0,z1,z2,z3,z4,z5⟩:=(HF2.out.at_ 1 rfl).p6 rfl;have f0:=(HF2.out.at_ 1 rfl).froz;have f1:=f0;have f2:=f0;have f3:=f0;have f4:=f0;have f5:=f0;cases b with
 |false =>
  have HN:=zZ (HFD.out.2 rfl);go_wp2_with fail;have h9:=HF2.out.setAll 1 rfl [B C 0,B C 0,B C 0,D none 0 0,B C 0,B C 0] rfl;refine bodyPost_ret (v:=.tuple #[.agg #[B C 0,B C 0,B C 0,D none 0 0,B C 0,B C 0],.bool false]) (by simp[results,results46,go_sem,z0,z1,z2,z3,z4,z5]) rfl ⟨0,0,0,0,0,[],none,0,0,by rw[HN.out];rfl,by rw[HN.out];rfl,ak.nil _ _,Oh,h9.xt⟩
 |true =>
  obtain⟨y,hxi,hfx⟩:=HFD.out.1 rfl;have hiX:i<n:=by have:=(zY.1 hxi).1;have:=HL.out;omega
  obtain⟨b9,off,_,_,rfl,-⟩:=HG.out.at_ hiX;obtain⟨cs,⟨xc,xg,xt,xch,⟨xs,xq⟩⟩,-,hc0,⟨ux,hcs,hix,hwf⟩,HX⟩:=HG.out.cell_ hiX;obtain rfl:y=⟨xc,xg,xt,xch,⟨xs,xq⟩⟩:=by have:=HX.out;rw[hxi]at this;injection this
  have HN:=zZ hfx;obtain⟨xA,xn,xcc,rfl,-⟩:=hix.open_;have HI:=zZ hix;have HWF:=zZ hwf;have x0:=HF2.out.xt.cell (hc0 0 (B C xc) (by rw[hcs];rfl));have x1:=HF2.out.xt.cell (hc0 1 (B C xg) (by rw[hcs];rfl));have x2:=HF2.out.xt.cell (hc0 2 (B C xt) (by rw[hcs];rfl));have x3:=HF2.out.xt.cell (hc0 3 (D xA xn xcc) (by rw[hcs];rfl));have x4:=HF2.out.xt.cell (hc0 4 (B C xs) (by rw[hcs];rfl));have x5:=HF2.out.xt.cell (hc0 5 (B C xq) (by rw[hcs];rfl));rw[yQ]at x0;clear hc0 hcs hix hwf hfx hxi HX HFD;go_wp2_with fail;have h9:=HF2.out.setAll 1 rfl [B C xc,B C xg,B C xt,D xA xn xcc,B C xs,B C xq] rfl;refine bodyPost_ret (v:=.tuple #[.agg #[B C xc,B C xg,B C xt,D xA xn xcc,B C xs,B C xq],.bool true]) (by simp[results,results46,go_sem,z0,z1,z2,z3,z4,z5]) rfl ⟨xc,xg,xt,xs,xq,xch,xA,xn,xcc,by rw[HN.out];rfl,by rw[HN.out];rfl,HI.out,HWF.out,h9.xt⟩
section
variable {l:List dF} {g:List Pg} {s:dl} {t:r6} {x y:dF} {k:Nat}
theorem N2(hx:l[0]?=some x):Lr l 0=Le x:=by unfold Lr;rw[hx];simp
theorem N6(hx:l[k+1]?=some x)(hy:l[k]?=some y):Lr l (k+1)=(Le x&&bU y x):=by unfold Lr J8;simp only[hx,hy]
theorem PZ{sts:List dF}{q:Pg}(hx:g[0]?=some q):LG s sts g 0=JV s sts q:=by unfold LG;rw[hx];simp
theorem PD{sts:List dF}{q r:Pg}(hx:g[k+1]?=some q)(hy:g[k]?=some r):LG s sts g (k+1)=(dW r q&&JV s sts q):=by unfold LG J8;simp only[hx,hy]
theorem M8(hx:l[k]?=some x)(h:x.state=1):kE l (k+1)=kE l k+1:=by unfold kE;rw[ax hx,xM,uC (by unfold Kr;simp[h])];simp
theorem Nv(hx:l[k]?=some x)(h:x.state≠1):kE l (k+1)=kE l k:=by unfold kE;rw[ax hx,xM,uB (by unfold Kr;simp[h])];simp
theorem Oe(h:l.length=k):kE l k=Lm l:=by unfold kE Lm;rw[bh (by omega)]
theorem PR(h:∀j,j<l.length->Lr l j=true):wE l=true:=j9 h
theorem Nc(hk:k<l.length)(h:Lr l k=false):wE l=false:=hJ hk h
end
theorem rA.read{b off n c k:Nat}{w wx:World}{l:List dF}(h:rA p w (D (some ⟨b,off,none⟩) n c) l)(hx:ab w wx)(hk:k<n) :
  ∃xs xq xt xa xb xc xd:Int,Hid (l[k]?=some ⟨⟨xs,xq⟩,xt,⟨xa,xb,xc,xd⟩⟩)/\dF.wf ⟨⟨xs,xq⟩,xt,⟨xa,xb,xc,xd⟩⟩/\wx.cell? ⟨b,off+k*7,none⟩=some (B C xs)/\wx.cell? ⟨b,off+k*7+1,none⟩=some (B C xq)/\wx.cell? ⟨b,off+k*7+2,none⟩=some (B C xt)/\wx.cell? ⟨b,off+k*7+3,none⟩=some (B C xa)/\wx.cell? ⟨b,off+k*7+4,none⟩=some (B C xb)/\wx.cell? ⟨b,off+k*7+5,none⟩=some (B C xc)/\wx.cell? ⟨b,off+k*7+6,none⟩=some (B C xd):=by
 obtain⟨cs,⟨⟨xs,xq⟩,xt,⟨xa,xb,xc,xd⟩⟩,-,hc0,⟨hcs,hw⟩,HX⟩:=(h.ext (cU.stab p) hx).cell_ hk;subst hcs;exact⟨xs,xq,xt,xa,xb,xc,xd,HX,hw,hc0 0 _ rfl,hc0 1 _ rfl,hc0 2 _ rfl,hc0 3 _ rfl,hc0 4 _ rfl,hc0 5 _ rfl,hc0 6 _ rfl⟩
theorem Ce.read{b off n c k:Nat}{w wx:World}{l:List Pg}(h:Ce p w (D (some ⟨b,off,none⟩) n c) l)(hx:ab w wx)(hk:k<n) :
  ∃(xc xg xt xs xq:Int) (xch:List Int) (A:Option Addr) (m cc:Nat),Hid (l[k]?=some ⟨xc,xg,xt,xch,⟨xs,xq⟩⟩)/\Pg.wf ⟨xc,xg,xt,xch,⟨xs,xq⟩⟩/\ak p wx (D A m cc) xch/\wx.cell? ⟨b,off+k*6,none⟩=some (B C xc)/\wx.cell? ⟨b,off+k*6+1,none⟩=some (B C xg)/\wx.cell? ⟨b,off+k*6+2,none⟩=some (B C xt)/\wx.cell? ⟨b,off+k*6+3,none⟩=some (D A m cc)/\wx.cell? ⟨b,off+k*6+4,none⟩=some (B C xs)/\wx.cell? ⟨b,off+k*6+5,none⟩=some (B C xq):=by
 obtain⟨cs,⟨xc,xg,xt,xch,⟨xs,xq⟩⟩,-,hc0,⟨u,hcs,hI,hw⟩,HX⟩:=(h.ext (lO.stab p) hx).cell_ hk;obtain⟨A,m,cc,rfl,-⟩:=hI.open_;subst hcs;exact⟨xc,xg,xt,xs,xq,xch,A,m,cc,HX,hw,hI,hc0 0 _ rfl,hc0 1 _ rfl,hc0 2 _ rfl,hc0 3 _ rfl,hc0 4 _ rfl,hc0 5 _ rfl⟩
theorem MX(v:Value)(l:List dF)(w:World)(h:rA p w v l)(hn:l.length<=1000000) :
  Calls prog 75 #[v] w fun e w'=>(∃u:Nat,e=.returned (.tuple #[B C (u:Int),.bool (wE l)])/\(wE l=true->u=Lm l))/\ab w w':=by
 obtain⟨A,n,c,rfl,hnc,hcc,hnn,HL⟩:=h.open_;have HV:Bx (rA p w (D A n c) l):=⟨h⟩
 have hn3:n<=1000000:=by have:=HL.out;omega
 clear h hn;go_enter func75,ntmps75
 go_wp2_with fail;go_loopw [2,8] (fun s2 s8 wr=>∃k u:Nat,s2=B C u/\s8=B C k/\k<=n/\u<=k/\Bx (ab w wr/\(∀j,j<k->Lr l j=true)/\u=kE l k)) (fun _ k _=>n-(intOf k).toNat)
 case atStart=>exact⟨0,0,rfl,rfl,by omega,by omega,⟨⟨zE _,fun j hj=>by omega,rfl⟩⟩⟩
 case round =>
  obtain⟨k,u,rfl,rfl,hk,huk,HR⟩:=hrel;by_cases hkn:k<n
  ·obtain⟨b,off,_,_,rfl,-⟩:=HV.out.at_ hkn;obtain⟨xs,xq,xt,xa,xb,xc,xd,HX,hwf,x0,x1,x2,x3,x4,x5,x6⟩:=rA.read HV.out HR.out.1 hkn;have hx2:ab wr (wr.alloc (.cells #[B C xs,B C xq,B C xt,B C xa,B C xb,B C xc,B C xd] 103)):=(zE _).alloc _;have hkl:k<l.length:=by have:=HL.out;omega
   have HKL:=zZ hkl;clear hwf hkl;by_cases hok:1<=xt/\xt<=6;case neg =>
    have HE:=zZ (show wE l=false by
     refine Nc HKL.out ?_;have ho:Le (⟨⟨xs,xq⟩,xt,⟨xa,xb,xc,xd⟩⟩:dF)=false:=decide_eq_false hok;cases k with
     |zero=>rw[N2 HX.out];exact ho
     |succ m=>rw[N6 HX.out (zV (by have:=HKL.out;omega)),ho];rfl)
    have HW:=zZ (HR.out.1.trans hx2);go_wp2_with fail;all_goals first
     |(exfalso;omega)
     |(refine bodyPost_ret (v:=.tuple #[B C 0,.bool false]) (by simp[results,results75,go_sem]) rfl ⟨⟨0,by rw[HE.out];rfl,fun h=>by rw[HE.out]at h;cases h⟩,HW.out⟩)
   obtain⟨hok1,hok2⟩:=hok;have hd1:decide (xt<1)=false:=decide_eq_false (by omega);have hd2:decide (6<xt)=false:=decide_eq_false (by omega);have HOK:=zZ (show Le (⟨⟨xs,xq⟩,xt,⟨xa,xb,xc,xd⟩⟩:dF)=true from decide_eq_true ⟨hok1,hok2⟩);go_upto_region 6 with (fail)
   obtain⟨w2,hw2⟩:=nm ((wr.alloc (.cells #[B C xs,B C xq,B C xt,B C xa,B C xb,B C xc,B C xd] 103)):World);have HF2:Bx (aA w w2 [(wr.heap.size,#[B C xs,B C xq,B C xt,B C xa,B C xb,B C xc,B C xd],103)]):=⟨by rw[hw2];exact (show aA w wr [] from ⟨HR.out.1,dV.nil _ _⟩).new _ _⟩
   rw[<-hw2]at hx2;rw[<-hw2];clear hw2;obtain⟨gx,hgx⟩:=nm wr.heap.size;rw[<-hgx]at HF2;rw[<-hgx];clear hgx x0 x1 x2 x3 x4 x5 x6;obtain⟨y0,y1⟩:=(HF2.out.at_ 0 rfl).p2 rfl;have HA:Bx ((∀j,j<k->Lr l j=true)/\u=kE l k):=⟨HR.out.2⟩
   have HE2:Bx (ab w wr):=⟨HR.out.1⟩
   clear HR;rcases vE k with hk0|hk0
   ·subst hk0;refine zQ 99 fun wd kS=>?_;refine zS 14 [(0,21),(1,22),(2,23),(3,24),(4,25),(5,26),(6,27),(7,28),(8,29),(9,30),(10,31),(11,32),(12,33),(13,34)] kS ?_;iterate 3 refine zT ?_ (y:=by intro wk hk;obtain⟨_,_⟩:=zkc2 hk y0 y1;go_simp;try with_reducible rfl)
    iterate 10 (apply zK;exact⟨rfl,rfl⟩;simp only[kA];exact rfl)
    refine zT ?_ (y:=by intro wk hk;obtain⟨_,_⟩:=zkc2 hk y0 y1;go_simp;try with_reducible rfl);refine zN (zD ?_);have HT:=zZ (show Lr l 0=true by rw[N2 HX.out];exact HOK.out);have HWd:=zZ (HF2.out.xt.trans kS);have y2:=((HF2.out.ext kS).at_ 0 rfl).c 2 rfl;clear kS y0 y1 hd1 hd2;by_cases hu:xt=1
    ·have HU:=zZ (show u+1=kE l (0+1) by rw[M8 HX.out hu,HA.out.2]);subst hu;go_wp2_with fail;go_roundw
     case rel=>exact⟨0+1,u+1,by go_num,by go_num,by omega,by omega,⟨⟨HWd.out,fun j hj=>by obtain rfl:j=0:=(by omega);exact HT.out,HU.out⟩⟩⟩
     case measure=>simp[intOf];omega
    ·have HU:=zZ (show u=kE l (0+1) by rw[Nv HX.out hu,HA.out.2]);have hub:(xt==1)=false:=beq_eq_false_iff_ne.2 hu;go_wp2_with fail;go_roundw
     case rel=>exact⟨0+1,u,rfl,by go_num,by omega,by omega,⟨⟨HWd.out,fun j hj=>by obtain rfl:j=0:=(by omega);exact HT.out,HU.out⟩⟩⟩
     case measure=>simp[intOf];omega
   ·obtain⟨m,hm⟩:∃m,m+1=k:=⟨k-1,by omega⟩
    have hmn:m<n:=by omega
    obtain⟨zs,zq,zt,za,zb,zc,zd,HZ,-,z0,z1,-⟩:=rA.read HV.out (HE2.out.trans hx2) hmn;have HSG:=zZ (show Lr l k=(Le (⟨⟨xs,xq⟩,xt,⟨xa,xb,xc,xd⟩⟩:dF)&&bU ⟨⟨zs,zq⟩,zt,⟨za,zb,zc,zd⟩⟩ ⟨⟨xs,xq⟩,xt,⟨xa,xb,xc,xd⟩⟩) by rw[<-hm];exact N6 (by rw[hm];exact HX.out) HZ.out);have m1:IntKind.i64.wrap ((k:Int)-1)=(m:Int):=by rw[yN _ (by omega)];omega
    have hkg:decide ((k:Int)>0)=true:=by simp;omega
    have hmm1:m+1<=k:=by omega
    have hmm2:k<=m+1:=by omega
    clear hm;refine zQ 99 fun wd kS=>?_;refine zS 11 [(0,21),(1,22),(2,23),(3,24),(4,25),(5,26),(6,27),(7,28),(8,29),(9,30),(10,31)] kS ?_;iterate 11 refine zT ?_ (y:=by intro wk hk;obtain⟨_,_,_,_⟩:=zkc4 hk y0 y1 z0 z1;go_simp;try with_reducible rfl)
    refine zN (zO 11 (fun K hK=>?_));go_simp;refine (Md zs zq xs xq _).mono ?_;rintro e w3 ⟨rfl,hx3⟩;have kS2:ab w2 w3:=kS.trans hx3;have HWd:=zZ (HF2.out.xt.trans kS2);have y2:=((HF2.out.ext kS2).at_ 0 rfl).c 2 rfl;rcases cT zs zq xs xq with ⟨h1,e1⟩|⟨h1,e1⟩|⟨h1,e1⟩
    ·have HT:=zZ (show Lr l k=true by rw[HSG.out,HOK.out];unfold bU et;simp;omega);rw[e1];clear h1 e1;refine hK.out _ _ (fun _=>kS2) ?_;clear hK K;try simp only[kA]
     refine zS 2 [(12,33),(13,34)] kS2 ?_;iterate 2 refine zT ?_ (y:=by intro wk hk;obtain⟨_,_,_,_⟩:=zkc4 hk y0 y1 z0 z1;go_simp;try with_reducible rfl)
     refine zN (zD ?_);clear kS kS2 y0 y1 z0 z1 hd1 hd2 m1 hkg hx3;by_cases hu:xt=1
     ·have HU:=zZ (show u+1=kE l (k+1) by rw[M8 HX.out hu,HA.out.2]);subst hu;go_wp2_with fail;go_roundw
      case rel=>exact⟨k+1,u+1,by go_num,by go_num,by omega,by omega,⟨⟨HWd.out,fun j hj=>by rcases zU j k with h|h;exact HA.out.1 j h;obtain rfl:j=k:=(by omega);exact HT.out,HU.out⟩⟩⟩
      case measure=>simp[intOf];omega
     ·have HU:=zZ (show u=kE l (k+1) by rw[Nv HX.out hu,HA.out.2]);have hub:(xt==1)=false:=beq_eq_false_iff_ne.2 hu;go_wp2_with fail;go_roundw
      case rel=>exact⟨k+1,u,rfl,by go_num,by omega,by omega,⟨⟨HWd.out,fun j hj=>by rcases zU j k with h|h;exact HA.out.1 j h;obtain rfl:j=k:=(by omega);exact HT.out,HU.out⟩⟩⟩
      case measure=>simp[intOf];omega
    ·have HE:=zZ (show wE l=false from Nc HKL.out (by rw[HSG.out,HOK.out];unfold bU et;simp;omega));rw[e1];clear h1 e1;refine hK.out _ _ (fun _=>kS2) ?_;clear hK K;try simp only[kA]
     refine zS 2 [(12,33),(13,34)] kS2 ?_;iterate 2 refine zT ?_ (y:=by intro wk hk;obtain⟨_,_,_,_⟩:=zkc4 hk y0 y1 z0 z1;go_simp;try with_reducible rfl)
     refine zN (zD ?_);go_wp2_with fail;refine bodyPost_ret (v:=.tuple #[B C 0,.bool false]) (by simp[results,results75,go_sem]) rfl ⟨⟨0,by rw[HE.out];rfl,fun h=>by rw[HE.out]at h;cases h⟩,HWd.out⟩
    ·have HE:=zZ (show wE l=false from Nc HKL.out (by rw[HSG.out,HOK.out];unfold bU et;simp;omega));rw[e1];clear h1 e1;refine hK.out _ _ (fun _=>kS2) ?_;clear hK K;try simp only[kA]
     refine zS 2 [(12,33),(13,34)] kS2 ?_;iterate 2 refine zT ?_ (y:=by intro wk hk;obtain⟨_,_,_,_⟩:=zkc4 hk y0 y1 z0 z1;go_simp;try with_reducible rfl)
     refine zN (zD ?_);go_wp2_with fail;refine bodyPost_ret (v:=.tuple #[B C 0,.bool false]) (by simp[results,results75,go_sem]) rfl ⟨⟨0,by rw[HE.out];rfl,fun h=>by rw[HE.out]at h;cases h⟩,HWd.out⟩
  ·obtain rfl:k=n:=by omega
   have HE:=zZ (show wE l=true from PR fun j hj=>HR.out.2.1 j (by have:=HL.out;omega));have HU:=zZ (show u=Lm l by rw[HR.out.2.2,Oe HL.out]);have HW:=zZ HR.out.1;clear HR;go_wp2_with fail;refine bodyPost_ret (v:=.tuple #[B C (u:Int),.bool true]) (by simp[results,results75,go_sem]) rfl ⟨⟨u,by rw[HE.out],fun _=>HU.out⟩,HW.out⟩
end Go.Proofs.YtpaidaphacoblaaGreatDoor

