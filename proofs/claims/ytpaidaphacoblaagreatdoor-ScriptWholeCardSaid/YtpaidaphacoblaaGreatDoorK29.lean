import Derived.Test.YtpaidaphacoblaaGreatDoorK28
import Derived.Laws.Shifts
import Derived.Test.YtpaidaphacoblaaGreatDoorK26
set_option linter.all false
set_option maxRecDepth 100000
set_option maxHeartbeats 0
namespace Go.Proofs.YtpaidaphacoblaaGreatDoor
open Go.Value renaming int→B,slice→D
open Go.IntKind renaming i64→C
open Go.RowKit _root_.Go.Proofs.Tryz
variable {p:Nat} {ch:List Int}
theorem mf(v:Value)(s:dl)(w:World)(hs:aR p w v s) :
  Calls prog 29 #[v] w fun e w'=>e=.returned (B C (aC s))/\ab w w':=by
 obtain⟨vP,vB,vX,rfl,hP,hB,hX,hnum⟩:=hs;obtain⟨AP,nP,cP,rfl,hnP,hcP,hmP,HLP⟩:=hP.open_;obtain⟨AB,nB,cB,rfl,hnB,hcB,hmB,HLB⟩:=hB.open_;obtain⟨AX,nX,cX,rfl,hnX,hcX,hmX,HLX⟩:=hX.open_;have HR0:Bx (jg p w (D AP nP cP) s.pap/\l9 p w (D AB nB cB) s.bk/\jh p w (D AX nX cX) s.xp):=⟨⟨hP,hB,hX⟩⟩
 obtain⟨hm1,hm2⟩:=hnum;clear hP hB hX;by_cases c1:0<=s.num/\s.num<=31;case neg =>
  have HE:=zZ (tk c1);go_enter func29,ntmps29
  go_wp2_with fail;all_goals first
   |(exfalso;omega)
   |(go_ret;exact⟨ag HE.out.symm,(zE _).alloc _⟩)
 obtain⟨n1,n2⟩:=c1;by_cases c2:1<=nP/\nP<=4/\nX<=60;case neg =>
  have HE:=zZ (te (s:=s) ⟨n1,n2⟩ (by rw[HLP.out,HLX.out];exact c2));go_enter func29,ntmps29
  go_wp2_with fail;all_goals first
   |(exfalso;omega)
   |(go_ret;exact⟨ag HE.out.symm,(zE _).alloc _⟩)
 obtain⟨p1,p2,x1⟩:=c2;have HC3:=zZ (C0 (s:=s) ⟨n1,n2⟩ (by rw[HLP.out,HLX.out];exact⟨p1,p2,x1⟩));obtain⟨w1,hw1⟩:=nm ((w.alloc (.cells #[B C s.num,D AP nP cP,D AB nB cB,D AX nX cX] 29)):World);have HF:Bx (aA w w1 [(w.heap.size,#[B C s.num,D AP nP cP,D AB nB cB,D AX nX cX],29)]):=⟨by rw[hw1];exact (aA.start w).push _ _ rfl⟩
 obtain⟨z0,z1,z2,z3⟩:=(HF.out.at_ 0 rfl).p4 rfl;go_enter func29,ntmps29
 go_upto_region 1 with (fail)
 rw[<-hw1];clear hw1;go_upto_region 5 with (fail)
 go_wp2_with fail;refine (pP s AP AB AX nP cP nB cB nX cX _ (p:=p) (HR0.out.1.ext (BQ.stab p) HF.out.xt) (HR0.out.2.1.ext (JY.stab p) HF.out.xt)).mono ?_;rintro e w2 ⟨rfl,hx2⟩;have HF2:=bx (HF.out.ext hx2);clear HF hx2 z0 z1 z2 z3;rcases Cj s with c3|c3;case inr =>
  have HE:=zZ (HC3.out.1 (by omega));rw[c3]at HE⊢;go_wp2_with fail;go_ret
  exact⟨ag HE.out.symm,HF2.out.xt⟩
 have HCR:=zZ (HC3.out.2 c3);rw[c3];clear HC3 c3;obtain⟨z0,z1,z2,z3⟩:=(HF2.out.at_ 0 rfl).p4 rfl;go_wp2_with fail;clear z0 z1 z2 z3;go_loopw [39] (fun s4 wr=>∃k:Nat,s4=B C k/\k<=nX/\Bx (aA w wr [(w.heap.size,#[B C s.num,D AP nP cP,D AB nB cB,D AX nX cX],29)]/\∀(j:Nat) x,j<k->s.xp[j]?=some x->ud s.pap.length x=true)) (fun k _=>nX-(intOf k).toNat)
 case atStart=>exact⟨0,rfl,by omega,⟨⟨HF2.out,fun j x hj=>by omega⟩⟩⟩
 case round =>
  clear HF2;obtain⟨i,rfl,hi,HR⟩:=hrel;obtain⟨z0,z1,z2,z3⟩:=(HR.out.1.at_ 0 rfl).p4 rfl;by_cases hin:i<nX
  ·obtain⟨bX,oX,_,_,rfl,-⟩:=HR0.out.2.2.at_ hin;obtain⟨xc,xe,xv,HX,x0,x1,x2⟩:=jh.read HR0.out.2.2 HR.out.1.xt.xt hin;have HXG:Bx (ud s.pap.length ⟨xc,xe,xv⟩=decide (0<=xc/\xc<=9999/\1<=xe/\xe<=99/\0<=xv/\xv<(nP:Int))):=⟨by unfold ud;rw[HLP.out]⟩
   have hx9:ab wr (wr.alloc (.cells #[B C xc,B C xe,B C xv] 56)):=(zE _).alloc _;have HF9:=bx (HR.out.1.ext hx9);have HA:Bx (∀(j:Nat) x,j<i->s.xp[j]?=some x->ud s.pap.length x=true):=⟨HR.out.2⟩
   obtain⟨y0,y1,y2,y3⟩:=(HF9.out.at_ 0 rfl).p4 rfl;clear HR hx9;by_cases hg:0<=xc/\xc<=9999/\1<=xe/\xe<=99/\0<=xv/\xv<(nP:Int)
   ·obtain⟨g1,g2,g3,g4,g5,g6⟩:=hg;have HT:=zZ (show ud s.pap.length ⟨xc,xe,xv⟩=true by rw[HXG.out];exact decide_eq_true ⟨g1,g2,g3,g4,g5,g6⟩);go_wp2_with fail;go_roundw
    case rel=>exact⟨i+1,by go_num,by omega,⟨⟨HF9.out,fun j y hj hy=>by rcases zU j i with h|h;exact HA.out j y h hy;obtain rfl:j=i:=(by omega);rw[HX.out]at hy;injection hy with hy;subst hy;exact HT.out⟩⟩⟩
    case measure=>simp[intOf];omega
   ·have HE:=zZ (show aC s=2 by
     rw[HCR.out,if_pos];exact wT.2 ⟨⟨xc,xe,xv⟩,zW HX.out,by rw[HXG.out,decide_eq_false hg];simp⟩)
    go_wp2_with fail;all_goals first
     |(exfalso;omega)
     |(go_ret;exact⟨ag HE.out.symm,HF9.out.xt⟩)
  ·obtain rfl:nX=i:=by omega
   have HXA:=zZ (show s.xp.all (ud s.pap.length)=true from xS.2 fun y hy=>by obtain⟨j,hj⟩:=zH hy;exact HR.out.2 j y (by have:=(zY.1 hj).1;have:=HLX.out;omega) hj)
   have HF2:Bx (aA w wr [(w.heap.size,#[B C s.num,D AP nP cP,D AB nB cB,D AX nX cX],29)]):=⟨HR.out.1⟩
   clear HR;go_wp2_with fail;clear z0 z1 z2 z3;go_loopw [6] (fun s6 wr=>∃k:Nat,s6=B C k/\1<=k/\(k<=nX\/k=1)/\Bx (aA w wr [(w.heap.size,#[B C s.num,D AP nP cP,D AB nB cB,D AX nX cX],29)]/\∀j,j+1<k->lW s.xp j=true)) (fun k _=>nX+1-(intOf k).toNat)
   case atStart=>exact⟨1,rfl,by omega,by omega,⟨⟨HF2.out,fun j hj=>by omega⟩⟩⟩
   case round =>
    clear HF2;obtain⟨m,rfl,hm0,hm1,HR⟩:=hrel;obtain⟨z0,z1,z2,z3⟩:=(HR.out.1.at_ 0 rfl).p4 rfl;by_cases hmn:m<nX
    ·obtain⟨bX,oX,_,_,rfl,-⟩:=HR0.out.2.2.at_ hmn;obtain⟨m',hm'⟩:∃m',m'+1=m:=⟨m-1,by omega⟩
     have hmn':m'<nX:=by omega
     obtain⟨xc,xe,xv,HX,x0,-⟩:=jh.read HR0.out.2.2 HR.out.1.xt.xt hmn';obtain⟨yc,ye,yv,HY,y0,-⟩:=jh.read HR0.out.2.2 HR.out.1.xt.xt hmn;have HAG:=zZ (show lW s.xp m'=decide (xc<yc) by unfold lW;rw[HX.out,show m'+1=m from hm',HY.out]);have hmm1:m'+1<=m:=by omega
     have hmm2:m<=m'+1:=by omega
     clear hm';have m1:IntKind.i64.wrap ((m:Int)-1)=(m':Int):=by rw[yN _ (by omega)];omega
     go_upto_region 17 with (fail)
     refine zQ 99 fun wd kS=>?_;refine zS 14 [(0,82),(1,83),(2,84),(3,85),(4,86),(5,87),(6,88),(7,89),(8,90),(9,91),(10,92),(11,93),(12,94),(13,95)] kS ?_;iterate 14 refine zT ?_ (y:=by intro wk hk;obtain⟨_,_,_⟩:=zkc3 hk z3 x0 y0;go_simp;try with_reducible rfl)
     refine zN (zD ?_);have HF3:=bx (HR.out.1.ext kS);have HA:Bx (∀j,j+1<m->lW s.xp j=true):=⟨HR.out.2⟩
     clear m1 kS z0 z1 z2 z3 HR;by_cases hxy:xc<yc
     ·have HT:=zZ (show lW s.xp m'=true by rw[HAG.out];exact decide_eq_true hxy);go_wp2_with fail;go_roundw
      case rel=>exact⟨m+1,by go_num,by omega,by omega,⟨⟨HF3.out,fun j hj=>by rcases zU (j+1) m with h|h;exact HA.out j h;obtain rfl:j=m':=(by omega);exact HT.out⟩⟩⟩
      case measure=>simp[intOf];omega
     ·have HE:=zZ (show aC s=5 by
       rw[HCR.out,if_neg (by rw[HXA.out];simp),if_pos];exact wT.2 ⟨m',yX.2 (by have:=HLX.out;omega),by rw[HAG.out,decide_eq_false hxy];simp⟩)
      go_wp2_with fail;go_ret
      exact⟨ag HE.out.symm,HF3.out.xt⟩
    ·have HE:=zZ (show aC s=0 by
      rw[HCR.out,if_neg (by rw[HXA.out];simp),if_neg];rw[hD fun j hj=>HR.out.2 j (by have:=HLX.out;omega)];simp)
     go_wp2_with fail;go_ret
     exact⟨ag HE.out.symm,HR.out.1.xt⟩
theorem sB(a:Int)(w:World):Calls prog 73 #[B C a] w fun e w'=>e=.returned (.bool false)/\w=w':=by
 have h:(a != a)=false:=by simp
 go_enter func73,ntmps73
 go_wp2
 go_ret
 exact⟨rfl,rfl⟩
theorem fN(a b:Int)(w:World):Calls prog 39 #[B C a,B C b] w fun e w'=>e=.returned (B C (bg a b))/\w=w':=by
 go_enter func39,ntmps39
 go_wp2_with fail;refine (sB a _).mono ?_;rintro e w1 ⟨rfl,rfl⟩;go_wp2_with fail;refine (sB b _).mono ?_;rintro e w1 ⟨rfl,rfl⟩;rcases bJ a b with ⟨h,e⟩|⟨h,e⟩|⟨h,e⟩
 ·go_wp2
  go_ret
  exact⟨ag e.symm,rfl⟩
 ·subst h;have h1:decide (a<a)=false:=decide_eq_false (Int.lt_irrefl a);go_wp2
  go_ret
  exact⟨ag e.symm,rfl⟩
 ·have h1:decide (a<b)=false:=decide_eq_false (by omega);have h2:decide (b<a)=true:=decide_eq_true h;go_wp2
  go_ret
  exact⟨ag e.symm,rfl⟩
def nz(x:Int):Bool:=decide (x≠0)
theorem GS(v:Value)(l:List Int)(w:World)(h:ak p w v l):Calls prog 38 #[v] w fun e w'=>e=.returned (B C ((l.find? nz).getD 0))/\w=w':=by
 obtain⟨A,n,c,rfl,hnc,hc,hnn,HL⟩:=h.open_;have H:=zZ h;clear h;go_enter func38,ntmps38
 go_wp2
 go_loop [8] (fun i=>∃k:Nat,k<=n/\i=B C k/\Hid (∀(j:Nat) y,j<k->l[j]?=some y->nz y=false)) (fun i=>n-(intOf i).toNat)
 case atStart=>exact⟨0,xL _,rfl,fun j y hj=>by omega⟩
 case round =>
  obtain⟨k,hk,rfl,HK⟩:=hrel;by_cases hlt:k<n
  ·obtain⟨b,off,y,rfl,hcy,HY,hy1,hy2⟩:=H.out.at_ hlt;by_cases e:y=0
   ·have e1:(y != 0)=false:=by simp[e]
    have E:=zZ e;clear e;go_wp2
    go_round
    case rel=>exact⟨k+1,by omega,by go_num,fun j z hj hz=>by
     rcases zU j k with h|h
     ·exact HK.out j z h hz
     ·obtain rfl:j=k:=by omega
      rw[HY.out]at hz;injection hz with hz;subst hz;unfold nz;simp[E.out]⟩
    case measure=>simp[intOf];omega
   ·have e1:(y != 0)=true:=by simp[e]
    have E:=zZ e;clear e;go_wp2
    go_ret
    exact⟨ag (by rw[ja HY.out (by unfold nz;simp[E.out]) (HK.out)];rfl),rfl⟩
  ·obtain rfl:k=n:=by omega
   go_wp2
   go_ret
   exact⟨ag (by rw[mP (fun j y hy=>HK.out j y (by have:=(zY.1 hy).1;have:=HL.out;omega) hy)];rfl),rfl⟩
def eR(a b c d:Int):Int:=if bg a c≠0 then bg a c else bg b d
theorem uw(a b c d:Int):(([bg a c,bg b d]:List Int).find? nz).getD 0=eR a b c d:=by
 unfold eR nz;by_cases h:bg a c=0
 ·by_cases h2:bg b d=0<;>simp[h,h2]
 ·simp[h]
theorem cT(a b c d:Int):((a<c\/(a=c/\b<d))/\eR a b c d=-1)\/((a=c/\b=d)/\eR a b c d=0)\/((c<a\/(a=c/\d<b))/\eR a b c d=1):=by unfold eR;rcases bJ a c with ⟨h,e⟩|⟨h,e⟩|⟨h,e⟩<;>rcases bJ b d with ⟨h',e'⟩|⟨h',e'⟩|⟨h',e'⟩<;>rw[e,e']<;>simp<;>omega
theorem gC(a b:Int):-1<=bg a b/\bg a b<=1:=by rcases bJ a b with ⟨h,e⟩|⟨h,e⟩|⟨h,e⟩<;>omega
theorem qd(x y:Int)(w:World)(g c:Nat)(hx:-1<=x/\x<=1)(hy:-1<=y/\y<=1)(h:Bk w g #[B C x,B C y] 3):Calls prog 38 #[D (some ⟨g,0,none⟩) 2 2] w fun e w'=>e=.returned (B C (([x,y].find? nz).getD 0))/\w=w':=by
 refine GS (p:=g+1) _ [x,y] w ⟨some ⟨g,0,none⟩,2,rfl,zX _,by decide,by simp,fun z hz=>?_,fun k z hz=>?_⟩
 ·simp only[yM,wL,or_false]at hz;rcases hz with rfl|rfl<;>constructor<;>omega
 ·match k,hz with
  |0,hz=>simp at hz;subst hz;exact⟨g,0,rfl,by omega,h.c 0 rfl⟩
  |1,hz=>simp at hz;subst hz;exact⟨g,0,rfl,by omega,h.c 1 rfl⟩
  |k+2,hz=>simp at hz
theorem Mh(c g ct s q c' g':Int)(A:Option Addr)(n cc:Nat)(w:World) :
  Calls prog 76 #[.agg #[B C c,B C g,B C ct,D A n cc,B C s,B C q],B C c',B C g'] w fun e w'=>e=.returned (B C (eR c g c' g'))/\ab w w':=by
 have HF:Bx (aA w (w.alloc (.cells #[B C c,B C g,B C ct,D A n cc,B C s,B C q] 80)) [(w.heap.size,#[B C c,B C g,B C ct,D A n cc,B C s,B C q],80)]):=⟨(aA.start w).push _ _ rfl⟩
 go_enter func76,ntmps76
 go_upto_region 1 with (fail)
 obtain⟨w1,hw1⟩:=nm ((w.alloc (.cells #[B C c,B C g,B C ct,D A n cc,B C s,B C q] 80)):World);rw[<-hw1]at HF;rw[<-hw1];clear hw1;obtain⟨b0,b1⟩:=(HF.out.at_ 0 rfl).p2 rfl;refine zQ 10 fun wd kS=>?_;refine zS 6 [(0,7),(1,8),(2,9),(4,11),(5,12),(6,13)] kS ?_;iterate 6 refine zT ?_ (y:=by intro wk hk;obtain⟨_,_⟩:=zkc2 hk b0 b1;go_simp;try with_reducible rfl)
 refine zN (zO 3 (fun K hK=>?_))
 ·go_simp;refine (fN c c' _).mono ?_;rintro e w2 ⟨rfl,rfl⟩;refine hK.out _ _ (fun _=>kS) ?_;clear hK K;try simp only[kA]
  refine zO 7 (fun K hK=>?_);go_simp;refine (fN g g' _).mono ?_;rintro e w2 ⟨rfl,rfl⟩;refine hK.out _ _ (fun _=>kS) ?_;clear hK K;try simp only[kA]
  refine zO 8 (fun K hK=>?_);go_simp;have hq:ab w1 (wd.alloc (.cells #[B C (bg c c'),B C (bg g g')] 3)):=kS.alloc _;have hb:Bk (wd.alloc (.cells #[B C (bg c c'),B C (bg g g')] 3)) wd.heap.size #[B C (bg c c'),B C (bg g g')] 3:=Bk.new wd _ _;refine hK.out _ _ (fun _=>(hq)) ?_;clear hK K;try simp only[kA]
  refine zO 9 (fun K hK=>?_);go_simp;refine (qd _ _ _ _ 2 (gC _ _) (gC _ _) hb).mono ?_;rintro e w2 ⟨rfl,rfl⟩;rw[uw];refine hK.out _ _ (fun _=>(hq)) ?_;clear hK K;try simp only[kA]
  refine zO 10 (fun K hK=>?_);go_simp;refine hK.out _ _ (fun h=>absurd rfl h) ?_;clear hK K;refine zD ?_;go_wp2_with fail;go_ret
  exact⟨rfl,HF.out.xt.trans hq⟩
theorem Md(c g c' g':Int)(w:World) :
  Calls prog 79 #[.agg #[B C c,B C g],.agg #[B C c',B C g']] w fun e w'=>e=.returned (B C (eR c g c' g'))/\ab w w':=by
 have HF:Bx (aA w ((w.alloc (.cells #[B C c,B C g] 37)).alloc (.cells #[B C c',B C g'] 37)) [(w.heap.size,#[B C c,B C g],37),(w.heap.size+1,#[B C c',B C g'],37)]):=⟨((aA.start w).push _ _ rfl).push _ _ (by simp)⟩
 go_enter func79,ntmps79
 go_upto_region 1 with (fail)
 obtain⟨w1,hw1⟩:=nm (((w.alloc (.cells #[B C c,B C g] 37)).alloc (.cells #[B C c',B C g'] 37)):World);rw[<-hw1]at HF;rw[<-hw1];clear hw1;obtain⟨b0,b1⟩:=(HF.out.at_ 0 rfl).p2 rfl;obtain⟨b2,b3⟩:=(HF.out.at_ 1 rfl).p2 rfl;refine zQ 12 fun wd kS=>?_;refine zS 8 [(0,5),(1,6),(2,7),(3,8),(5,10),(6,11),(7,12),(8,13)] kS ?_;iterate 8 refine zT ?_ (y:=by intro wk hk;obtain⟨_,_,_,_⟩:=zkc4 hk b0 b1 b2 b3;go_simp;try with_reducible rfl)
 refine zN (zO 4 (fun K hK=>?_))
 ·go_simp;refine (fN c c' _).mono ?_;rintro e w2 ⟨rfl,rfl⟩;refine hK.out _ _ (fun _=>kS) ?_;clear hK K;try simp only[kA]
  refine zO 9 (fun K hK=>?_);go_simp;refine (fN g g' _).mono ?_;rintro e w2 ⟨rfl,rfl⟩;refine hK.out _ _ (fun _=>kS) ?_;clear hK K;try simp only[kA]
  refine zO 10 (fun K hK=>?_);go_simp;have hq:ab w1 (wd.alloc (.cells #[B C (bg c c'),B C (bg g g')] 3)):=kS.alloc _;have hb:Bk (wd.alloc (.cells #[B C (bg c c'),B C (bg g g')] 3)) wd.heap.size #[B C (bg c c'),B C (bg g g')] 3:=Bk.new wd _ _;refine hK.out _ _ (fun _=>(hq)) ?_;clear hK K;try simp only[kA]
  refine zO 11 (fun K hK=>?_);go_simp;refine (qd _ _ _ _ 2 (gC _ _) (gC _ _) hb).mono ?_;rintro e w2 ⟨rfl,rfl⟩;rw[uw];refine hK.out _ _ (fun _=>(hq)) ?_;clear hK K;try simp only[kA]
  refine zO 12 (fun K hK=>?_);go_simp;refine hK.out _ _ (fun h=>absurd rfl h) ?_;clear hK K;refine zD ?_;go_wp2_with fail;go_ret
  exact⟨rfl,HF.out.xt.trans hq⟩
theorem NW(a b d c:Int)(w:World):Calls prog 90 #[.agg #[B C a,B C b,B C d],B C c] w fun e w'=>e=.returned (B C (bg a c))/\ab w w':=by
 go_enter func90,ntmps90
 go_wp2_with fail;refine (fN a c _).mono ?_;rintro e w1 ⟨rfl,rfl⟩;go_wp2_with fail;go_ret
 exact⟨rfl,(zE _).alloc _⟩
theorem AA(a b d c:Int)(w:World):Calls prog 66 #[.agg #[B C a,B C b,B C d],B C c] w fun e w'=>e=.returned (B C (bg a c))/\ab w w':=by
 go_enter func66,ntmps66
 go_wp2_with fail;refine (fN a c _).mono ?_;rintro e w1 ⟨rfl,rfl⟩;go_wp2_with fail;go_ret
 exact⟨rfl,(zE _).alloc _⟩
theorem NN(xc xg xt xs xq c g:Int)(A:Option Addr)(n cc:Nat)(w:World):Calls prog 85 #[.agg #[B C xc,B C xg,B C xt,D A n cc,B C xs,B C xq],.agg #[B C c,B C g]] w fun e w'=>e=.returned (B C (eR xc xg c g))/\ab w w':=by
 go_enter func85,ntmps85
 go_wp2_with fail;refine (Mh xc xg xt xs xq c g A n cc _).mono ?_;rintro e w1 ⟨rfl,hx⟩;go_wp2_with fail;go_ret
 exact⟨rfl,(((zE _).alloc _).alloc _).trans hx⟩
theorem NX(xs xq xt xa xb xc xd c g:Int)(w:World):Calls prog 78 #[.agg #[B C xs,B C xq,B C xt,B C xa,B C xb,B C xc,B C xd],.agg #[B C c,B C g]] w fun e w'=>e=.returned (B C (eR xs xq c g))/\ab w w':=by
 go_enter func78,ntmps78
 go_wp2_with fail;refine (Md xs xq c g _).mono ?_;rintro e w1 ⟨rfl,hx⟩;go_wp2_with fail;go_ret
 exact⟨rfl,(((zE _).alloc _).alloc _).trans hx⟩
theorem Qd(v:Value)(xs:List fv)(c:Int)(w:World)(h:jh p w v xs)(hm:Ae xs (fun y=>bg y.cand c))(hn:xs.length<=1000000000) :
  Calls prog 65 #[v,B C c,.func (.func 90) #[] #[]] w fun e w'=>(∃(i:Nat) (b:Bool),e=.returned (.tuple #[B C (i:Int),.bool b])/\tF xs (fun y=>bg y.cand c) i b)/\ab w w':=by
 obtain⟨A,n,c0,rfl,hnc,hcc,hnn,HL⟩:=h.open_;have HV:Bx (jh p w (D A n c0) xs):=⟨h⟩
 have HM:Bx (Ae xs (fun y=>bg y.cand c)):=⟨hm⟩
 have hn3:n<=1000000000:=by have:=HL.out;omega
 clear h hm hn;have HF:Bx (aA w w []):=⟨aA.start w⟩
 go_enter func65,ntmps65
 go_wp2_with fail;go_loopw [9,10] (fun s9 s10 wr=>∃lo hi:Nat,s9=B C lo/\s10=B C hi/\lo<=hi/\hi<=n/\Bx (aA w wr []/\C9 xs (fun y=>bg y.cand c) lo hi)) (fun s9 s10 _=>(intOf s10).toNat-(intOf s9).toNat)
 case atStart=>exact⟨0,n,rfl,rfl,by omega,by omega,⟨⟨HF.out,by have:=C9.start xs (fun y=>bg y.cand c);rw[HL.out]at this;exact this⟩⟩⟩
 case round =>
  obtain⟨lo,hi,rfl,rfl,hlh,hhn,HR⟩:=hrel;have HFr:Bx (aA w wr []):=⟨HR.out.1⟩
  have HB:Bx (C9 xs (fun y=>bg y.cand c) lo hi):=⟨HR.out.2⟩
  clear HR HF;by_cases hlt:lo<hi
  ·obtain⟨m,hm⟩:=nm ((lo+hi)/2:Nat);have hm1:lo<=m:=by omega
   have hm2:m<hi:=by omega
   have hmn:m<n:=by omega
   have hdiv:((lo:Int)+(hi:Int))/2=(m:Int):=by omega
   clear hm;obtain⟨b,off,_,_,rfl,-⟩:=HV.out.at_ (show m<n by omega);obtain⟨cs,⟨xa,xb,xd⟩,-,hc0,⟨hcs,-⟩,HX⟩:=(HV.out.ext (lR.stab p) HFr.out.xt).cell_ (show m<n by omega);have x0:=hc0 0 (B C xa) (by rw[hcs];rfl);have x1:=hc0 1 (B C xb) (by rw[hcs];rfl);have x2:=hc0 2 (B C xd) (by rw[hcs];rfl);rw[yQ]at x0;clear hc0 hcs;go_upto_region 5 with (fail)
   clear hdiv;go_wp2_with (go_at_call 90;refine (NW xa xb xd c _).mono ?_;rintro e w3 ⟨rfl,hx3⟩;rcases bJ xa c with ⟨h1,e1⟩|⟨h1,e1⟩|⟨h1,e1⟩<;>rw[e1])
   ·have HFN:Bx (aA w w3 []):=⟨HFr.out.ext hx3⟩
    have HE:=zZ e1;have HB2:=zZ (HB.out.up HM.out hm2 HX.out (show bg xa c<0 by rw[HE.out];decide));clear e1 h1 HX HFr HB hx3 x0 x1 x2;go_wp2_with fail;go_roundw
    case rel=>exact⟨m+1,hi,by go_num,rfl,by omega,by omega,⟨⟨HFN.out,HB2.out⟩⟩⟩
    case measure=>simp[intOf];omega
   ·have HFN:Bx (aA w w3 []):=⟨HFr.out.ext hx3⟩
    have HE:=zZ e1;have HB2:=zZ (HB.out.down HM.out hm1 hm2 HX.out (show 0<=bg xa c by rw[HE.out];decide));clear e1 h1 HX HFr HB hx3 x0 x1 x2;go_wp2_with fail;go_roundw
    case rel=>exact⟨lo,m,rfl,rfl,by omega,by omega,⟨⟨HFN.out,HB2.out⟩⟩⟩
    case measure=>simp[intOf];omega
   ·have HFN:Bx (aA w w3 []):=⟨HFr.out.ext hx3⟩
    have HE:=zZ e1;have HB2:=zZ (HB.out.down HM.out hm1 hm2 HX.out (show 0<=bg xa c by rw[HE.out];decide));clear e1 h1 HX HFr HB hx3 x0 x1 x2;go_wp2_with fail;go_roundw
    case rel=>exact⟨lo,m,rfl,rfl,by omega,by omega,⟨⟨HFN.out,HB2.out⟩⟩⟩
    case measure=>simp[intOf];omega
  ·obtain rfl:lo=hi:=by omega
   by_cases hln:lo<n
   ·obtain⟨b,off,_,_,rfl,-⟩:=HV.out.at_ (show lo<n by omega);obtain⟨cs,⟨xa,xb,xd⟩,-,hc0,⟨hcs,-⟩,HX⟩:=(HV.out.ext (lR.stab p) HFr.out.xt).cell_ (show lo<n by omega);have x0:=hc0 0 (B C xa) (by rw[hcs];rfl);have x1:=hc0 1 (B C xb) (by rw[hcs];rfl);have x2:=hc0 2 (B C xd) (by rw[hcs];rfl);rw[yQ]at x0;clear hc0 hcs;go_wp2_with (go_at_call 90;refine (NW xa xb xd c _).mono ?_;rintro e w3 ⟨rfl,hx3⟩;rcases bJ xa c with ⟨h1,e1⟩|⟨h1,e1⟩|⟨h1,e1⟩<;>rw[e1])
    ·have HFN:Bx (aA w w3 []):=⟨HFr.out.ext hx3⟩
     have HE:=zZ e1;have HFD:=zZ (HB.out.miss HM.out fun y hy=>by rw[HX.out]at hy;injection hy with hy;subst hy;show bg xa c≠0;rw[HE.out];decide);go_wp2_with fail;refine bodyPost_ret (v:=.tuple #[B C (lo:Int),.bool false]) (by simp[results,results65,go_sem]) rfl ⟨⟨lo,false,rfl,HFD.out⟩,HFN.out.xt⟩
    ·have HFN:Bx (aA w w3 []):=⟨HFr.out.ext hx3⟩
     have HE:=zZ e1;have HFD:=zZ (HB.out.hit HX.out HE.out);go_wp2_with fail;refine bodyPost_ret (v:=.tuple #[B C (lo:Int),.bool true]) (by simp[results,results65,go_sem]) rfl ⟨⟨lo,true,rfl,HFD.out⟩,HFN.out.xt⟩
    ·have HFN:Bx (aA w w3 []):=⟨HFr.out.ext hx3⟩
     have HE:=zZ e1;have HFD:=zZ (HB.out.miss HM.out fun y hy=>by rw[HX.out]at hy;injection hy with hy;subst hy;show bg xa c≠0;rw[HE.out];decide);go_wp2_with fail;refine bodyPost_ret (v:=.tuple #[B C (lo:Int),.bool false]) (by simp[results,results65,go_sem]) rfl ⟨⟨lo,false,rfl,HFD.out⟩,HFN.out.xt⟩
   ·obtain rfl:lo=n:=by omega
    have HFD:=zZ (HB.out.miss HM.out fun y hy=>by have:=(zY.1 hy).1;have:=HL.out;omega);go_wp2_with fail;refine bodyPost_ret (v:=.tuple #[B C (lo:Int),.bool false]) (by simp[results,results65,go_sem]) rfl ⟨⟨lo,false,rfl,HFD.out⟩,HFr.out.xt⟩
theorem Jg(v:Value)(xs:List fv)(c:Int)(w:World)(h:jh p w v xs)(hm:Ae xs (fun y=>bg y.cand c))(hn:xs.length<=1000000000) :
  Calls prog 65 #[v,B C c,.func (.func 66) #[] #[]] w fun e w'=>(∃(i:Nat) (b:Bool),e=.returned (.tuple #[B C (i:Int),.bool b])/\tF xs (fun y=>bg y.cand c) i b)/\ab w w':=by
 obtain⟨A,n,c0,rfl,hnc,hcc,hnn,HL⟩:=h.open_;have HV:Bx (jh p w (D A n c0) xs):=⟨h⟩
 have HM:Bx (Ae xs (fun y=>bg y.cand c)):=⟨hm⟩
 have hn3:n<=1000000000:=by have:=HL.out;omega
 clear h hm hn;have HF:Bx (aA w w []):=⟨aA.start w⟩
 go_enter func65,ntmps65
 go_wp2_with fail;go_loopw [9,10] (fun s9 s10 wr=>∃lo hi:Nat,s9=B C lo/\s10=B C hi/\lo<=hi/\hi<=n/\Bx (aA w wr []/\C9 xs (fun y=>bg y.cand c) lo hi)) (fun s9 s10 _=>(intOf s10).toNat-(intOf s9).toNat)
 case atStart=>exact⟨0,n,rfl,rfl,by omega,by omega,⟨⟨HF.out,by have:=C9.start xs (fun y=>bg y.cand c);rw[HL.out]at this;exact this⟩⟩⟩
 case round =>
  obtain⟨lo,hi,rfl,rfl,hlh,hhn,HR⟩:=hrel;have HFr:Bx (aA w wr []):=⟨HR.out.1⟩
  have HB:Bx (C9 xs (fun y=>bg y.cand c) lo hi):=⟨HR.out.2⟩
  clear HR HF;by_cases hlt:lo<hi
  ·obtain⟨m,hm⟩:=nm ((lo+hi)/2:Nat);have hm1:lo<=m:=by omega
   have hm2:m<hi:=by omega
   have hmn:m<n:=by omega
   have hdiv:((lo:Int)+(hi:Int))/2=(m:Int):=by omega
   clear hm;obtain⟨b,off,_,_,rfl,-⟩:=HV.out.at_ (show m<n by omega);obtain⟨cs,⟨xa,xb,xd⟩,-,hc0,⟨hcs,-⟩,HX⟩:=(HV.out.ext (lR.stab p) HFr.out.xt).cell_ (show m<n by omega);have x0:=hc0 0 (B C xa) (by rw[hcs];rfl);have x1:=hc0 1 (B C xb) (by rw[hcs];rfl);have x2:=hc0 2 (B C xd) (by rw[hcs];rfl);rw[yQ]at x0;clear hc0 hcs;go_upto_region 5 with (fail)
   clear hdiv;go_wp2_with (go_at_call 66;refine (AA xa xb xd c _).mono ?_;rintro e w3 ⟨rfl,hx3⟩;rcases bJ xa c with ⟨h1,e1⟩|⟨h1,e1⟩|⟨h1,e1⟩<;>rw[e1])
   ·have HFN:Bx (aA w w3 []):=⟨HFr.out.ext hx3⟩
    have HE:=zZ e1;have HB2:=zZ (HB.out.up HM.out hm2 HX.out (show bg xa c<0 by rw[HE.out];decide));clear e1 h1 HX HFr HB hx3 x0 x1 x2;go_wp2_with fail;go_roundw
    case rel=>exact⟨m+1,hi,by go_num,rfl,by omega,by omega,⟨⟨HFN.out,HB2.out⟩⟩⟩
    case measure=>simp[intOf];omega
   ·have HFN:Bx (aA w w3 []):=⟨HFr.out.ext hx3⟩
    have HE:=zZ e1;have HB2:=zZ (HB.out.down HM.out hm1 hm2 HX.out (show 0<=bg xa c by rw[HE.out];decide));clear e1 h1 HX HFr HB hx3 x0 x1 x2;go_wp2_with fail;go_roundw
    case rel=>exact⟨lo,m,rfl,rfl,by omega,by omega,⟨⟨HFN.out,HB2.out⟩⟩⟩
    case measure=>simp[intOf];omega
   ·have HFN:Bx (aA w w3 []):=⟨HFr.out.ext hx3⟩
    have HE:=zZ e1;have HB2:=zZ (HB.out.down HM.out hm1 hm2 HX.out (show 0<=bg xa c by rw[HE.out];decide));clear e1 h1 HX HFr HB hx3 x0 x1 x2;go_wp2_with fail;go_roundw
    case rel=>exact⟨lo,m,rfl,rfl,by omega,by omega,⟨⟨HFN.out,HB2.out⟩⟩⟩
    case measure=>simp[intOf];omega
  ·obtain rfl:lo=hi:=by omega
   by_cases hln:lo<n
   ·obtain⟨b,off,_,_,rfl,-⟩:=HV.out.at_ (show lo<n by omega);obtain⟨cs,⟨xa,xb,xd⟩,-,hc0,⟨hcs,-⟩,HX⟩:=(HV.out.ext (lR.stab p) HFr.out.xt).cell_ (show lo<n by omega);have x0:=hc0 0 (B C xa) (by rw[hcs];rfl);have x1:=hc0 1 (B C xb) (by rw[hcs];rfl);have x2:=hc0 2 (B C xd) (by rw[hcs];rfl);rw[yQ]at x0;clear hc0 hcs;go_wp2_with (go_at_call 66;refine (AA xa xb xd c _).mono ?_;rintro e w3 ⟨rfl,hx3⟩;rcases bJ xa c with ⟨h1,e1⟩|⟨h1,e1⟩|⟨h1,e1⟩<;>rw[e1])
    ·have HFN:Bx (aA w w3 []):=⟨HFr.out.ext hx3⟩
     have HE:=zZ e1;have HFD:=zZ (HB.out.miss HM.out fun y hy=>by rw[HX.out]at hy;injection hy with hy;subst hy;show bg xa c≠0;rw[HE.out];decide);go_wp2_with fail;refine bodyPost_ret (v:=.tuple #[B C (lo:Int),.bool false]) (by simp[results,results65,go_sem]) rfl ⟨⟨lo,false,rfl,HFD.out⟩,HFN.out.xt⟩
    ·have HFN:Bx (aA w w3 []):=⟨HFr.out.ext hx3⟩
     have HE:=zZ e1;have HFD:=zZ (HB.out.hit HX.out HE.out);go_wp2_with fail;refine bodyPost_ret (v:=.tuple #[B C (lo:Int),.bool true]) (by simp[results,results65,go_sem]) rfl ⟨⟨lo,true,rfl,HFD.out⟩,HFN.out.xt⟩
    ·have HFN:Bx (aA w w3 []):=⟨HFr.out.ext hx3⟩
     have HE:=zZ e1;have HFD:=zZ (HB.out.miss HM.out fun y hy=>by rw[HX.out]at hy;injection hy with hy;subst hy;show bg xa c≠0;rw[HE.out];decide);go_wp2_with fail;refine bodyPost_ret (v:=.tuple #[B C (lo:Int),.bool false]) (by simp[results,results65,go_sem]) rfl ⟨⟨lo,false,rfl,HFD.out⟩,HFN.out.xt⟩
   ·obtain rfl:lo=n:=by omega
    have HFD:=zZ (HB.out.miss HM.out fun y hy=>by have:=(zY.1 hy).1;have:=HL.out;omega);go_wp2_with fail;refine bodyPost_ret (v:=.tuple #[B C (lo:Int),.bool false]) (by simp[results,results65,go_sem]) rfl ⟨⟨lo,false,rfl,HFD.out⟩,HFr.out.xt⟩
theorem Qo(v:Value)(xs:List Pg)(c g:Int)(w:World)(h:Ce p w v xs)(hm:Ae xs (fun y=>eR y.cand y.page c g))(hn:xs.length<=1000000000) :
  Calls prog 84 #[v,.agg #[B C c,B C g],.func (.func 85) #[] #[]] w fun e w'=>(∃(i:Nat) (b:Bool),e=.returned (.tuple #[B C (i:Int),.bool b])/\tF xs (fun y=>eR y.cand y.page c g) i b)/\ab w w':=by
 obtain⟨A,n,c0,rfl,hnc,hcc,hnn,HL⟩:=h.open_;have HV:Bx (Ce p w (D A n c0) xs):=⟨h⟩
 have HM:Bx (Ae xs (fun y=>eR y.cand y.page c g)):=⟨hm⟩
 have hn3:n<=1000000000:=by have:=HL.out;omega
 clear h hm hn;have HF:Bx (aA w (w.alloc (.cells #[B C c,B C g] 159)) [(w.heap.size,#[B C c,B C g],159)]):=⟨(aA.start w).push _ _ rfl⟩
 go_enter func84,ntmps84
 go_upto_region 1 with (fail)
 obtain⟨w1,hw1⟩:=nm ((w.alloc (.cells #[B C c,B C g] 159)):World);rw[<-hw1]at HF;rw[<-hw1];clear hw1;go_wp2_with fail;go_loopw [9,10] (fun s9 s10 wr=>∃lo hi:Nat,s9=B C lo/\s10=B C hi/\lo<=hi/\hi<=n/\Bx (aA w wr [(w.heap.size,#[B C c,B C g],159)]/\C9 xs (fun y=>eR y.cand y.page c g) lo hi)) (fun s9 s10 _=>(intOf s10).toNat-(intOf s9).toNat)
 case atStart=>exact⟨0,n,rfl,rfl,by omega,by omega,⟨⟨HF.out,by have:=C9.start xs (fun y=>eR y.cand y.page c g);rw[HL.out]at this;exact this⟩⟩⟩
 case round =>
  obtain⟨lo,hi,rfl,rfl,hlh,hhn,HR⟩:=hrel;have HFr:Bx (aA w wr [(w.heap.size,#[B C c,B C g],159)]):=⟨HR.out.1⟩
  have HB:Bx (C9 xs (fun y=>eR y.cand y.page c g) lo hi):=⟨HR.out.2⟩
  clear HR HF;by_cases hlt:lo<hi
  ·obtain⟨m,hm⟩:=nm ((lo+hi)/2:Nat);have hm1:lo<=m:=by omega
   have hm2:m<hi:=by omega
   have hmn:m<n:=by omega
   have hdiv:((lo:Int)+(hi:Int))/2=(m:Int):=by omega
   clear hm;obtain⟨b,off,_,_,rfl,-⟩:=HV.out.at_ (show m<n by omega);obtain⟨cs,⟨xc,xg,xt,xch,⟨xs,xq⟩⟩,-,hc0,⟨ux,hcs,hix,-⟩,HX⟩:=(HV.out.ext (lO.stab p) HFr.out.xt).cell_ (show m<n by omega);obtain⟨xA,xn,xcc,rfl,-⟩:=hix.open_;clear hix;have x0:=hc0 0 (B C xc) (by rw[hcs];rfl);have x1:=hc0 1 (B C xg) (by rw[hcs];rfl);have x2:=hc0 2 (B C xt) (by rw[hcs];rfl);have x3:=hc0 3 (D xA xn xcc) (by rw[hcs];rfl);have x4:=hc0 4 (B C xs) (by rw[hcs];rfl);have x5:=hc0 5 (B C xq) (by rw[hcs];rfl);rw[yQ]at x0;clear hc0 hcs;obtain⟨k0,k1⟩:=(HFr.out.at_ 0 rfl).p2 rfl;go_upto_region 5 with (fail)
   clear hdiv;refine zQ 99 fun wd kS=>?_;refine zS 6 [(0,24),(1,25),(2,26),(3,27),(4,28),(5,29)] kS ?_;iterate 6 refine zT ?_ (y:=by intro wk hk;obtain⟨_,_,_,_,_,_,_,_⟩:=zkc8 hk x0 x1 x2 x3 x4 x5 k0 k1;go_simp;try with_reducible rfl)
   refine zN (zO 6 (fun K hK=>?_));go_simp;refine (NN xc xg xt xs xq c g xA xn xcc _).mono ?_;rintro e w3 ⟨rfl,hx3⟩;have kS2:ab wr w3:=kS.trans hx3;rcases cT xc xg c g with ⟨h1,e1⟩|⟨h1,e1⟩|⟨h1,e1⟩
   ·have HFN:Bx (aA w w3 [(w.heap.size,#[B C c,B C g],159)]):=⟨HFr.out.ext (kS2)⟩
    have HE:=zZ e1;rw[e1];refine hK.out _ _ (fun _=>kS2) ?_;clear hK K;try simp only[kA]
    refine zS 1 [(7,31)] kS2 ?_;refine zT ?_ (y:=by intro wk hk;obtain⟨_,_,_,_,_,_,_,_⟩:=zkc8 hk x0 x1 x2 x3 x4 x5 k0 k1;go_simp;try with_reducible rfl);refine zN (zD ?_);have HB2:=zZ (HB.out.up HM.out hm2 HX.out (show eR xc xg c g<0 by rw[HE.out];decide));clear e1 h1 HX HFr HB hx3 x0 x1 x2 x3 x4 x5 k0 k1 kS2 kS;go_wp2_with fail;go_roundw
    case rel=>exact⟨m+1,hi,by go_num,rfl,by omega,by omega,⟨⟨HFN.out,HB2.out⟩⟩⟩
    case measure=>simp[intOf];omega
   ·have HFN:Bx (aA w w3 [(w.heap.size,#[B C c,B C g],159)]):=⟨HFr.out.ext (kS2)⟩
    have HE:=zZ e1;rw[e1];refine hK.out _ _ (fun _=>kS2) ?_;clear hK K;try simp only[kA]
    refine zS 1 [(7,31)] kS2 ?_;refine zT ?_ (y:=by intro wk hk;obtain⟨_,_,_,_,_,_,_,_⟩:=zkc8 hk x0 x1 x2 x3 x4 x5 k0 k1;go_simp;try with_reducible rfl);refine zN (zD ?_);have HB2:=zZ (HB.out.down HM.out hm1 hm2 HX.out (show 0<=eR xc xg c g by rw[HE.out];decide));clear e1 h1 HX HFr HB hx3 x0 x1 x2 x3 x4 x5 k0 k1 kS2 kS;go_wp2_with fail;go_roundw
    case rel=>exact⟨lo,m,rfl,rfl,by omega,by omega,⟨⟨HFN.out,HB2.out⟩⟩⟩
    case measure=>simp[intOf];omega
   ·have HFN:Bx (aA w w3 [(w.heap.size,#[B C c,B C g],159)]):=⟨HFr.out.ext (kS2)⟩
    have HE:=zZ e1;rw[e1];refine hK.out _ _ (fun _=>kS2) ?_;clear hK K;try simp only[kA]
    refine zS 1 [(7,31)] kS2 ?_;refine zT ?_ (y:=by intro wk hk;obtain⟨_,_,_,_,_,_,_,_⟩:=zkc8 hk x0 x1 x2 x3 x4 x5 k0 k1;go_simp;try with_reducible rfl);refine zN (zD ?_);have HB2:=zZ (HB.out.down HM.out hm1 hm2 HX.out (show 0<=eR xc xg c g by rw[HE.out];decide));clear e1 h1 HX HFr HB hx3 x0 x1 x2 x3 x4 x5 k0 k1 kS2 kS;go_wp2_with fail;go_roundw
    case rel=>exact⟨lo,m,rfl,rfl,by omega,by omega,⟨⟨HFN.out,HB2.out⟩⟩⟩
    case measure=>simp[intOf];omega
  ·obtain rfl:lo=hi:=by omega
   by_cases hln:lo<n
   ·obtain⟨b,off,_,_,rfl,-⟩:=HV.out.at_ (show lo<n by omega);obtain⟨cs,⟨xc,xg,xt,xch,⟨xs,xq⟩⟩,-,hc0,⟨ux,hcs,hix,-⟩,HX⟩:=(HV.out.ext (lO.stab p) HFr.out.xt).cell_ (show lo<n by omega);obtain⟨xA,xn,xcc,rfl,-⟩:=hix.open_;clear hix;have x0:=hc0 0 (B C xc) (by rw[hcs];rfl);have x1:=hc0 1 (B C xg) (by rw[hcs];rfl);have x2:=hc0 2 (B C xt) (by rw[hcs];rfl);have x3:=hc0 3 (D xA xn xcc) (by rw[hcs];rfl);have x4:=hc0 4 (B C xs) (by rw[hcs];rfl);have x5:=hc0 5 (B C xq) (by rw[hcs];rfl);rw[yQ]at x0;clear hc0 hcs;obtain⟨k0,k1⟩:=(HFr.out.at_ 0 rfl).p2 rfl;go_upto_region 8 with (fail)
    refine zQ 99 fun wd kS=>?_;refine zS 11 [(0,35),(1,36),(2,37),(3,38),(4,39),(5,40),(6,41),(7,42),(8,43),(9,44),(10,45)] kS ?_;iterate 11 refine zT ?_ (y:=by intro wk hk;obtain⟨_,_,_,_,_,_,_,_⟩:=zkc8 hk x0 x1 x2 x3 x4 x5 k0 k1;go_simp;try with_reducible rfl)
    refine zN (zO 11 (fun K hK=>?_));go_simp;refine (NN xc xg xt xs xq c g xA xn xcc _).mono ?_;rintro e w3 ⟨rfl,hx3⟩;have kS2:ab wr w3:=kS.trans hx3;rcases cT xc xg c g with ⟨h1,e1⟩|⟨h1,e1⟩|⟨h1,e1⟩
    ·have HFN:Bx (aA w w3 [(w.heap.size,#[B C c,B C g],159)]):=⟨HFr.out.ext (kS2)⟩
     have HE:=zZ e1;rw[e1];refine hK.out _ _ (fun _=>kS2) ?_;clear hK K;try simp only[kA]
     refine zS 4 [(12,47),(13,48),(14,6),(15,7)] kS2 ?_;iterate 4 refine zT ?_ (y:=by intro wk hk;obtain⟨_,_,_,_,_,_,_,_⟩:=zkc8 hk x0 x1 x2 x3 x4 x5 k0 k1;go_simp;try with_reducible rfl)
     refine zN (zD ?_);have HFD:=zZ (HB.out.miss HM.out fun y hy=>by rw[HX.out]at hy;injection hy with hy;subst hy;show eR xc xg c g≠0;rw[HE.out];decide);go_wp2_with fail;refine bodyPost_ret (v:=.tuple #[B C (lo:Int),.bool false]) (by simp[results,results84,go_sem]) rfl ⟨⟨lo,false,rfl,HFD.out⟩,HFN.out.xt⟩
    ·have HFN:Bx (aA w w3 [(w.heap.size,#[B C c,B C g],159)]):=⟨HFr.out.ext (kS2)⟩
     have HE:=zZ e1;rw[e1];refine hK.out _ _ (fun _=>kS2) ?_;clear hK K;try simp only[kA]
     refine zS 4 [(12,47),(13,48),(14,6),(15,7)] kS2 ?_;iterate 4 refine zT ?_ (y:=by intro wk hk;obtain⟨_,_,_,_,_,_,_,_⟩:=zkc8 hk x0 x1 x2 x3 x4 x5 k0 k1;go_simp;try with_reducible rfl)
     refine zN (zD ?_);have HFD:=zZ (HB.out.hit HX.out HE.out);go_wp2_with fail;refine bodyPost_ret (v:=.tuple #[B C (lo:Int),.bool true]) (by simp[results,results84,go_sem]) rfl ⟨⟨lo,true,rfl,HFD.out⟩,HFN.out.xt⟩
    ·have HFN:Bx (aA w w3 [(w.heap.size,#[B C c,B C g],159)]):=⟨HFr.out.ext (kS2)⟩
     have HE:=zZ e1;rw[e1];refine hK.out _ _ (fun _=>kS2) ?_;clear hK K;try simp only[kA]
     refine zS 4 [(12,47),(13,48),(14,6),(15,7)] kS2 ?_;iterate 4 refine zT ?_ (y:=by intro wk hk;obtain⟨_,_,_,_,_,_,_,_⟩:=zkc8 hk x0 x1 x2 x3 x4 x5 k0 k1;go_simp;try with_reducible rfl)
     refine zN (zD ?_);have HFD:=zZ (HB.out.miss HM.out fun y hy=>by rw[HX.out]at hy;injection hy with hy;subst hy;show eR xc xg c g≠0;rw[HE.out];decide);go_wp2_with fail;refine bodyPost_ret (v:=.tuple #[B C (lo:Int),.bool false]) (by simp[results,results84,go_sem]) rfl ⟨⟨lo,false,rfl,HFD.out⟩,HFN.out.xt⟩
   ·obtain rfl:lo=n:=by omega
    have HFD:=zZ (HB.out.miss HM.out fun y hy=>by have:=(zY.1 hy).1;have:=HL.out;omega);have k0:=(HFr.out.at_ 0 rfl).c 0 rfl;go_upto_region 8 with (fail)
    refine zQ 99 fun wd kS=>?_;refine zS 16 [(0,35),(1,36),(2,37),(3,38),(4,39),(5,40),(6,41),(7,42),(8,43),(9,44),(10,45),(11,46),(12,47),(13,48),(14,6),(15,7)] kS ?_;iterate 5 refine zT ?_ (y:=by intro wk hk;have:=hk.cell k0;go_simp;try with_reducible rfl)
    iterate 8 (apply zK;exact⟨rfl,rfl⟩;simp only[kA];exact rfl)
    iterate 3 refine zT ?_ (y:=by intro wk hk;have:=hk.cell k0;go_simp;try with_reducible rfl)
    refine zN (zD ?_);go_wp2_with fail;refine bodyPost_ret (v:=.tuple #[B C (lo:Int),.bool false]) (by simp[results,results84,go_sem]) rfl ⟨⟨lo,false,rfl,HFD.out⟩,HFr.out.xt.trans kS⟩
theorem OB(v:Value)(xs:List dF)(c g:Int)(w:World)(h:rA p w v xs)(hm:Ae xs (fun y=>eR y.scan.s y.scan.q c g))(hn:xs.length<=1000000000) :
  Calls prog 77 #[v,.agg #[B C c,B C g],.func (.func 78) #[] #[]] w fun e w'=>(∃(i:Nat) (b:Bool),e=.returned (.tuple #[B C (i:Int),.bool b])/\tF xs (fun y=>eR y.scan.s y.scan.q c g) i b)/\ab w w':=by
 obtain⟨A,n,c0,rfl,hnc,hcc,hnn,HL⟩:=h.open_;have HV:Bx (rA p w (D A n c0) xs):=⟨h⟩
 have HM:Bx (Ae xs (fun y=>eR y.scan.s y.scan.q c g)):=⟨hm⟩
 have hn3:n<=1000000000:=by have:=HL.out;omega
 clear h hm hn;have HF:Bx (aA w (w.alloc (.cells #[B C c,B C g] 37)) [(w.heap.size,#[B C c,B C g],37)]):=⟨(aA.start w).push _ _ rfl⟩
 go_enter func77,ntmps77
 go_upto_region 1 with (fail)
 obtain⟨w1,hw1⟩:=nm ((w.alloc (.cells #[B C c,B C g] 37)):World);rw[<-hw1]at HF;rw[<-hw1];clear hw1;go_wp2_with fail;go_loopw [9,10] (fun s9 s10 wr=>∃lo hi:Nat,s9=B C lo/\s10=B C hi/\lo<=hi/\hi<=n/\Bx (aA w wr [(w.heap.size,#[B C c,B C g],37)]/\C9 xs (fun y=>eR y.scan.s y.scan.q c g) lo hi)) (fun s9 s10 _=>(intOf s10).toNat-(intOf s9).toNat)
 case atStart=>exact⟨0,n,rfl,rfl,by omega,by omega,⟨⟨HF.out,by have:=C9.start xs (fun y=>eR y.scan.s y.scan.q c g);rw[HL.out]at this;exact this⟩⟩⟩
 case round =>
  obtain⟨lo,hi,rfl,rfl,hlh,hhn,HR⟩:=hrel;have HFr:Bx (aA w wr [(w.heap.size,#[B C c,B C g],37)]):=⟨HR.out.1⟩
  have HB:Bx (C9 xs (fun y=>eR y.scan.s y.scan.q c g) lo hi):=⟨HR.out.2⟩
  clear HR HF;by_cases hlt:lo<hi
  ·obtain⟨m,hm⟩:=nm ((lo+hi)/2:Nat);have hm1:lo<=m:=by omega
   have hm2:m<hi:=by omega
   have hmn:m<n:=by omega
   have hdiv:((lo:Int)+(hi:Int))/2=(m:Int):=by omega
   clear hm;obtain⟨b,off,_,_,rfl,-⟩:=HV.out.at_ (show m<n by omega);obtain⟨cs,⟨⟨xs,xq⟩,xt,⟨xa,xb,xc,xd⟩⟩,-,hc0,⟨hcs,-⟩,HX⟩:=(HV.out.ext (cU.stab p) HFr.out.xt).cell_ (show m<n by omega);have x0:=hc0 0 (B C xs) (by rw[hcs];rfl);have x1:=hc0 1 (B C xq) (by rw[hcs];rfl);have x2:=hc0 2 (B C xt) (by rw[hcs];rfl);have x3:=hc0 3 (B C xa) (by rw[hcs];rfl);have x4:=hc0 4 (B C xb) (by rw[hcs];rfl);have x5:=hc0 5 (B C xc) (by rw[hcs];rfl);have x6:=hc0 6 (B C xd) (by rw[hcs];rfl);rw[yQ]at x0;clear hc0 hcs;obtain⟨k0,k1⟩:=(HFr.out.at_ 0 rfl).p2 rfl;go_upto_region 5 with (fail)
   clear hdiv;refine zQ 99 fun wd kS=>?_;refine zS 6 [(0,24),(1,25),(2,26),(3,27),(4,28),(5,29)] kS ?_;iterate 6 refine zT ?_ (y:=by intro wk hk;obtain⟨_,_,_,_,_,_,_,_⟩:=zkc8 hk x0 x1 x2 x3 x4 x5 x6 k0;have:=hk.cell k1;go_simp;try with_reducible rfl)
   refine zN (zO 6 (fun K hK=>?_));go_simp;refine (NX xs xq xt xa xb xc xd c g _).mono ?_;rintro e w3 ⟨rfl,hx3⟩;have kS2:ab wr w3:=kS.trans hx3;rcases cT xs xq c g with ⟨h1,e1⟩|⟨h1,e1⟩|⟨h1,e1⟩
   ·have HFN:Bx (aA w w3 [(w.heap.size,#[B C c,B C g],37)]):=⟨HFr.out.ext (kS2)⟩
    have HE:=zZ e1;rw[e1];refine hK.out _ _ (fun _=>kS2) ?_;clear hK K;try simp only[kA]
    refine zS 1 [(7,31)] kS2 ?_;refine zT ?_ (y:=by intro wk hk;obtain⟨_,_,_,_,_,_,_,_⟩:=zkc8 hk x0 x1 x2 x3 x4 x5 x6 k0;have:=hk.cell k1;go_simp;try with_reducible rfl);refine zN (zD ?_);have HB2:=zZ (HB.out.up HM.out hm2 HX.out (show eR xs xq c g<0 by rw[HE.out];decide));clear e1 h1 HX HFr HB hx3 x0 x1 x2 x3 x4 x5 x6 k0 k1 kS2 kS;go_wp2_with fail;go_roundw
    case rel=>exact⟨m+1,hi,by go_num,rfl,by omega,by omega,⟨⟨HFN.out,HB2.out⟩⟩⟩
    case measure=>simp[intOf];omega
   ·have HFN:Bx (aA w w3 [(w.heap.size,#[B C c,B C g],37)]):=⟨HFr.out.ext (kS2)⟩
    have HE:=zZ e1;rw[e1];refine hK.out _ _ (fun _=>kS2) ?_;clear hK K;try simp only[kA]
    refine zS 1 [(7,31)] kS2 ?_;refine zT ?_ (y:=by intro wk hk;obtain⟨_,_,_,_,_,_,_,_⟩:=zkc8 hk x0 x1 x2 x3 x4 x5 x6 k0;have:=hk.cell k1;go_simp;try with_reducible rfl);refine zN (zD ?_);have HB2:=zZ (HB.out.down HM.out hm1 hm2 HX.out (show 0<=eR xs xq c g by rw[HE.out];decide));clear e1 h1 HX HFr HB hx3 x0 x1 x2 x3 x4 x5 x6 k0 k1 kS2 kS;go_wp2_with fail;go_roundw
    case rel=>exact⟨lo,m,rfl,rfl,by omega,by omega,⟨⟨HFN.out,HB2.out⟩⟩⟩
    case measure=>simp[intOf];omega
   ·have HFN:Bx (aA w w3 [(w.heap.size,#[B C c,B C g],37)]):=⟨HFr.out.ext (kS2)⟩
    have HE:=zZ e1;rw[e1];refine hK.out _ _ (fun _=>kS2) ?_;clear hK K;try simp only[kA]
    refine zS 1 [(7,31)] kS2 ?_;refine zT ?_ (y:=by intro wk hk;obtain⟨_,_,_,_,_,_,_,_⟩:=zkc8 hk x0 x1 x2 x3 x4 x5 x6 k0;have:=hk.cell k1;go_simp;try with_reducible rfl);refine zN (zD ?_);have HB2:=zZ (HB.out.down HM.out hm1 hm2 HX.out (show 0<=eR xs xq c g by rw[HE.out];decide));clear e1 h1 HX HFr HB hx3 x0 x1 x2 x3 x4 x5 x6 k0 k1 kS2 kS;go_wp2_with fail;go_roundw
    case rel=>exact⟨lo,m,rfl,rfl,by omega,by omega,⟨⟨HFN.out,HB2.out⟩⟩⟩
    case measure=>simp[intOf];omega
  ·obtain rfl:lo=hi:=by omega
   by_cases hln:lo<n
   ·obtain⟨b,off,_,_,rfl,-⟩:=HV.out.at_ (show lo<n by omega);obtain⟨cs,⟨⟨xs,xq⟩,xt,⟨xa,xb,xc,xd⟩⟩,-,hc0,⟨hcs,-⟩,HX⟩:=(HV.out.ext (cU.stab p) HFr.out.xt).cell_ (show lo<n by omega);have x0:=hc0 0 (B C xs) (by rw[hcs];rfl);have x1:=hc0 1 (B C xq) (by rw[hcs];rfl);have x2:=hc0 2 (B C xt) (by rw[hcs];rfl);have x3:=hc0 3 (B C xa) (by rw[hcs];rfl);have x4:=hc0 4 (B C xb) (by rw[hcs];rfl);have x5:=hc0 5 (B C xc) (by rw[hcs];rfl);have x6:=hc0 6 (B C xd) (by rw[hcs];rfl);rw[yQ]at x0;clear hc0 hcs;obtain⟨k0,k1⟩:=(HFr.out.at_ 0 rfl).p2 rfl;go_upto_region 8 with (fail)
    refine zQ 99 fun wd kS=>?_;refine zS 11 [(0,35),(1,36),(2,37),(3,38),(4,39),(5,40),(6,41),(7,42),(8,43),(9,44),(10,45)] kS ?_;iterate 11 refine zT ?_ (y:=by intro wk hk;obtain⟨_,_,_,_,_,_,_,_⟩:=zkc8 hk x0 x1 x2 x3 x4 x5 x6 k0;have:=hk.cell k1;go_simp;try with_reducible rfl)
    refine zN (zO 11 (fun K hK=>?_));go_simp;refine (NX xs xq xt xa xb xc xd c g _).mono ?_;rintro e w3 ⟨rfl,hx3⟩;have kS2:ab wr w3:=kS.trans hx3;rcases cT xs xq c g with ⟨h1,e1⟩|⟨h1,e1⟩|⟨h1,e1⟩
    ·have HFN:Bx (aA w w3 [(w.heap.size,#[B C c,B C g],37)]):=⟨HFr.out.ext (kS2)⟩
     have HE:=zZ e1;rw[e1];refine hK.out _ _ (fun _=>kS2) ?_;clear hK K;try simp only[kA]
     refine zS 4 [(12,47),(13,48),(14,6),(15,7)] kS2 ?_;iterate 4 refine zT ?_ (y:=by intro wk hk;obtain⟨_,_,_,_,_,_,_,_⟩:=zkc8 hk x0 x1 x2 x3 x4 x5 x6 k0;have:=hk.cell k1;go_simp;try with_reducible rfl)
     refine zN (zD ?_);have HFD:=zZ (HB.out.miss HM.out fun y hy=>by rw[HX.out]at hy;injection hy with hy;subst hy;show eR xs xq c g≠0;rw[HE.out];decide);go_wp2_with fail;refine bodyPost_ret (v:=.tuple #[B C (lo:Int),.bool false]) (by simp[results,results77,go_sem]) rfl ⟨⟨lo,false,rfl,HFD.out⟩,HFN.out.xt⟩
    ·have HFN:Bx (aA w w3 [(w.heap.size,#[B C c,B C g],37)]):=⟨HFr.out.ext (kS2)⟩
     have HE:=zZ e1;rw[e1];refine hK.out _ _ (fun _=>kS2) ?_;clear hK K;try simp only[kA]
     refine zS 4 [(12,47),(13,48),(14,6),(15,7)] kS2 ?_;iterate 4 refine zT ?_ (y:=by intro wk hk;obtain⟨_,_,_,_,_,_,_,_⟩:=zkc8 hk x0 x1 x2 x3 x4 x5 x6 k0;have:=hk.cell k1;go_simp;try with_reducible rfl)
     refine zN (zD ?_);have HFD:=zZ (HB.out.hit HX.out HE.out);go_wp2_with fail;refine bodyPost_ret (v:=.tuple #[B C (lo:Int),.bool true]) (by simp[results,results77,go_sem]) rfl ⟨⟨lo,true,rfl,HFD.out⟩,HFN.out.xt⟩
    ·have HFN:Bx (aA w w3 [(w.heap.size,#[B C c,B C g],37)]):=⟨HFr.out.ext (kS2)⟩
     have HE:=zZ e1;rw[e1];refine hK.out _ _ (fun _=>kS2) ?_;clear hK K;try simp only[kA]
     refine zS 4 [(12,47),(13,48),(14,6),(15,7)] kS2 ?_;iterate 4 refine zT ?_ (y:=by intro wk hk;obtain⟨_,_,_,_,_,_,_,_⟩:=zkc8 hk x0 x1 x2 x3 x4 x5 x6 k0;have:=hk.cell k1;go_simp;try with_reducible rfl)
     refine zN (zD ?_);have HFD:=zZ (HB.out.miss HM.out fun y hy=>by rw[HX.out]at hy;injection hy with hy;subst hy;show eR xs xq c g≠0;rw[HE.out];decide);go_wp2_with fail;refine bodyPost_ret (v:=.tuple #[B C (lo:Int),.bool false]) (by simp[results,results77,go_sem]) rfl ⟨⟨lo,false,rfl,HFD.out⟩,HFN.out.xt⟩
   ·obtain rfl:lo=n:=by omega
    have HFD:=zZ (HB.out.miss HM.out fun y hy=>by have:=(zY.1 hy).1;have:=HL.out;omega);have k0:=(HFr.out.at_ 0 rfl).c 0 rfl;go_upto_region 8 with (fail)
    refine zQ 99 fun wd kS=>?_;refine zS 16 [(0,35),(1,36),(2,37),(3,38),(4,39),(5,40),(6,41),(7,42),(8,43),(9,44),(10,45),(11,46),(12,47),(13,48),(14,6),(15,7)] kS ?_;iterate 5 refine zT ?_ (y:=by intro wk hk;have:=hk.cell k0;go_simp;try with_reducible rfl)
    iterate 8 (apply zK;exact⟨rfl,rfl⟩;simp only[kA];exact rfl)
    iterate 3 refine zT ?_ (y:=by intro wk hk;have:=hk.cell k0;go_simp;try with_reducible rfl)
    refine zN (zD ?_);go_wp2_with fail;refine bodyPost_ret (v:=.tuple #[B C (lo:Int),.bool false]) (by simp[results,results77,go_sem]) rfl ⟨⟨lo,false,rfl,HFD.out⟩,HFr.out.xt.trans kS⟩
theorem qH{s:dl}{lab:cJ}{x:fv}{q:je}{b:List (List Int)}(hx:fo s.xp lab.c=some x)(hq:s.pap[lab.v.toNat]?=some q)(hb:s.bk[lab.v.toNat]?=some b) :
  bH s lab ch=(decide (lab.p=s.num)&&(decide (x.var=lab.v)&&(decide (0<=lab.g/\lab.g<(b.length:Int))&&(decide (ch.length=(dr q.code q.var q.ps b lab.g).length)&&ch.all fE)))):=by
 unfold bH;rw[hx,hq,hb]
theorem sC{s:dl}{lab:cJ}(h:lab.p≠s.num):bH s lab ch=false:=by
 cases e:bH s lab ch with
 |false=>rfl
 |true=>obtain⟨x,q,bk,_,h2,_⟩:=ii.1 e;exact absurd h2 h
theorem qO{s:dl}{lab:cJ}(h:fo s.xp lab.c=none):bH s lab ch=false:=by unfold bH;rw[h]
theorem tG{s:dl}{lab:cJ}{x:fv}(hx:fo s.xp lab.c=some x)(h:x.var≠lab.v):bH s lab ch=false:=by
 cases e:bH s lab ch with
 |false=>rfl
 |true =>
  obtain⟨x',q,bk,h1,_,h3,_⟩:=ii.1 e;rw[hx]at h1;injection h1 with h1;subst h1;exact absurd h3 h
end Go.Proofs.YtpaidaphacoblaaGreatDoor

