import Derived.Test.YtkaajgoeahahpaaGreatDoorK36
set_option linter.all false
set_option maxRecDepth 100000
set_option maxHeartbeats 0
namespace Go.Proofs.YtkaajgoeahahpaaGreatDoor
open Go.Value renaming int→B,slice→D
open Go.IntKind renaming i64→C
open Go.RowKit _root_.Go.Proofs.Tryz
theorem mK(v:Value)(l:List aj)(si qi:Int)(w:World){p:Nat}(hT:cK w)(hv:au p w v l) :
  Calls prog 29 #[v,.agg #[B C si,B C qi]] w (Gd l ⟨si,qi⟩ w):=by
 obtain⟨A,n,c,rfl,hnc,hcc,hnn,HL⟩:=hv.open_;have HV:Bx (au p w (D A n c) l):=⟨hv⟩
 have HT:Bx (cK w):=⟨hT⟩
 clear hv hT;obtain⟨w1,hw1⟩:=nm (((w.alloc (.cells #[B C si,B C qi] 43)).alloc (.cells #[B C 0,B C 0,B C 0,B C 0] 45)):World);have HF:Bx (aA w w1 [(w.heap.size,#[B C si,B C qi],43),(w.heap.size+1,#[B C 0,B C 0,B C 0,B C 0],45)]):=⟨by rw[hw1];exact ((aA.start w).push _ _ rfl).push _ _ (by simp)⟩
 go_enter func29,ntmps29
 go_upto_region 1 with (fail)
 rw[<-hw1];clear hw1;go_wp2_with fail;go_loopw [6,7,14] (fun s6 s7 s8 wr=>∃(k:Nat) (a d:Int),s6=B C a/\s7=B C d/\s8=B C k/\k<=n/\Bx (aA w wr [(w.heap.size,#[B C si,B C qi],43),(w.heap.size+1,#[B C 0,B C 0,B C 0,B C 0],45)]/\fQ l ⟨si,qi⟩ k a/\cV l ⟨si,qi⟩ k d)) (fun _ _ k _=>n-(intOf k).toNat)
 case atStart=>exact⟨0,-1,-1,rfl,rfl,rfl,by omega,⟨⟨HF.out,fQ.zero _ _,cV.zero _ _⟩⟩⟩
 case round =>
  obtain⟨k,a,d,rfl,rfl,rfl,hk,HR⟩:=hrel;clear HF;by_cases hkn:k<n
  ·obtain⟨b,off,_,_,rfl,-⟩:=HV.out.at_ hkn;obtain⟨t,s,q,kd,ct,ts,tq,lp,lc,lg,lv,str,ch,Au,mu,cu,HX,hcs,-,-⟩:=au.read HV.out HR.out.1.xt.xt hkn;obtain⟨c0,c1,c2,c3,c4,c5,c6,c7,c8,c9,c10,c11,c12⟩:=hcs;have HS:Bx (dm ⟨si,qi⟩ ⟨⟨t,s,q⟩,kd,str,ct,ch,⟨ts,tq⟩,⟨lp,lc,lg,lv⟩⟩=(decide (kd=1)&&decide (s=si/\q=qi))):=⟨by unfold dm aj.id;congr 1;rw[yE];simp only[decide_eq_true_eq,gT.eq_iff]⟩
   have HD:Bx (fH ⟨si,qi⟩ ⟨⟨t,s,q⟩,kd,str,ct,ch,⟨ts,tq⟩,⟨lp,lc,lg,lv⟩⟩=((decide (kd=2)||decide (kd=3))&&decide (ts=si/\tq=qi))):=⟨by unfold fH;congr 1;rw[yE];simp only[decide_eq_true_eq,gT.eq_iff]⟩
   have HA:Bx (fQ l ⟨si,qi⟩ k a):=⟨HR.out.2.1⟩
   have HB:Bx (cV l ⟨si,qi⟩ k d):=⟨HR.out.2.2⟩
   go_upto_region 5 with (fail)
   obtain⟨g,hg⟩:=nm wr.heap.size;obtain⟨w2,hw2⟩:=nm ((wr.alloc (.cells #[B C t,B C s,B C q,B C kd,.string (ba str),B C ct,D Au mu cu,B C ts,B C tq,B C lp,B C lc,B C lg,B C lv] 47)):World);have HF:Bx (aA w w2 [(w.heap.size,#[B C si,B C qi],43),(w.heap.size+1,#[B C 0,B C 0,B C 0,B C 0],45),(g,#[B C t,B C s,B C q,B C kd,.string (ba str),B C ct,D Au mu cu,B C ts,B C tq,B C lp,B C lc,B C lg,B C lv],47)]):=⟨by rw[hw2];exact HR.out.1.push _ _ hg.symm⟩
   rw[<-hw2,<-hg];clear hw2 hg HR c0 c1 c2 c3 c4 c5 c6 c7 c8 c9 c10 c11 c12;obtain⟨y0,y1,y2,y3,y4,y5,y6,y7,y8,y9,y10,y11,y12⟩:=(HF.out.at_ 2 rfl).p13 rfl;obtain⟨i0,i1⟩:=(HF.out.at_ 0 rfl).p2 rfl;have HE:Bx (aA w w2 [(w.heap.size,#[B C si,B C qi],43),(w.heap.size+1,#[B C 0,B C 0,B C 0,B C 0],45)]):=⟨HF.out.take 2⟩
   by_cases h1:kd=1
   ·have h1b:(kd==1)=true:=by rw[h1];rfl
    have HN:=zZ (HB.out.no HX.out (by rw[HD.out,h1];rfl));have HS1:=zZ (show dm ⟨si,qi⟩ ⟨⟨t,s,q⟩,kd,str,ct,ch,⟨ts,tq⟩,⟨lp,lc,lg,lv⟩⟩=decide (s=si/\q=qi) by rw[HS.out,h1];rfl);subst h1;clear HS HD HB;by_cases ha:a<0
    ·have hab:decide (a<0)=true:=decide_eq_true ha;go_upto_region 7 with (fail)
     refine zQ 99 fun wd kS=>?_;refine zS 5 [(0,23),(1,24),(2,25),(3,26),(5,28)] kS ?_;iterate 5 refine zT ?_ (y:=by intro wk hk;obtain⟨_,_,_,_,_,_,_,_⟩:=zkc8 hk y0 y1 y2 y3 y4 y5 y6 y7;obtain⟨_,_,_,_,_,_,_⟩:=zkc7 hk y8 y9 y10 y11 y12 i0 i1;go_simp;try with_reducible rfl)
     refine zN (zO 4 (fun K hK=>?_));go_simp;refine (ui t s q 1 ct ts tq lp lc lg lv _ Au mu cu _).mono ?_;rintro e w3 ⟨rfl,hx3⟩;have kS2:ab w2 w3:=kS.trans hx3;clear hx3;refine hK.out _ _ (fun _=>kS2) ?_;clear hK K;try simp only[kA]
     have eL:∀W,(Op.equalIn 10000 43 (.agg #[B C s,B C q]) (.agg #[B C si,B C qi])).run prog W=.ok (decide (s=si/\q=qi)) W:=fun W=>jW _ _ _ _ W;have gL:=fC;by_cases h2:s=si/\q=qi
     ·rw[decide_eq_true h2]at eL;have H2:=zZ (HA.out.new HX.out (by rw[HS1.out];exact decide_eq_true h2) ha);clear h2;refine zS 2 [(6,29),(7,30)] kS2 ?_;iterate 2 refine zT ?_
      refine zN (zD ?_);clear eL gL;go_wp2_with fail;go_roundw
      case rel=>exact⟨k+1,k,d,rfl,rfl,by go_num,by omega,⟨⟨HE.out.ext kS2,H2.out,HN.out⟩⟩⟩
      case measure=>simp[intOf];omega
     ·rw[decide_eq_false h2]at eL;have H2:=zZ (HA.out.no HX.out (by rw[HS1.out];exact decide_eq_false h2));clear h2;refine zS 2 [(6,29),(7,30)] kS2 ?_;iterate 2 refine zT ?_
      refine zN (zD ?_);clear eL gL;go_wp2_with fail;go_roundw
      case rel=>exact⟨k+1,a,d,rfl,rfl,by go_num,by omega,⟨⟨HE.out.ext kS2,H2.out,HN.out⟩⟩⟩
      case measure=>simp[intOf];omega
    ·have hab:decide (a<0)=false:=decide_eq_false ha;have H2:=zZ (HA.out.old HX.out (by omega));go_upto_region 7 with (fail)
     refine zQ 99 fun wd kS=>?_;refine zS 8 [(0,23),(1,24),(2,25),(3,26),(4,27),(5,28),(6,29),(7,30)] kS ?_;iterate 3 refine zT ?_ (y:=by intro wk hk;have:=hk.cell y3;go_simp;try with_reducible rfl)
     iterate 4 (apply zK;exact⟨rfl,rfl⟩;simp only[kA];exact rfl)
     refine zT ?_ (y:=by intro wk hk;have:=hk.cell y3;go_simp;try with_reducible rfl);refine zN (zD ?_);go_wp2_with fail;go_roundw
     case rel=>exact⟨k+1,a,d,rfl,rfl,by go_num,by omega,⟨⟨HE.out.ext kS,H2.out,HN.out⟩⟩⟩
     case measure=>simp[intOf];omega
   have h1b:(kd==1)=false:=beq_eq_false_iff_ne.2 h1;have HN:=zZ (HA.out.no HX.out (by rw[HS.out,decide_eq_false h1];rfl));have eL:∀W,(Op.equalIn 10000 43 (.agg #[B C ts,B C tq]) (.agg #[B C si,B C qi])).run prog W=.ok (decide (ts=si/\tq=qi)) W:=fun W=>jW _ _ _ _ W;have gL:=fC;replace h1:=zZ h1;clear HS HA;by_cases hk2:kd=2
   ·have h2b:(kd==2)=true:=by rw[hk2];rfl
    by_cases h2:ts=si/\tq=qi
    ·rw[decide_eq_true h2]at eL;have H2:=zZ (cV.put HX.out (by rw[HD.out,decide_eq_true h2];simp[hk2]));clear h2 HB hk2;go_wp2_with fail;go_roundw
     case rel=>exact⟨k+1,a,k,rfl,rfl,by go_num,by omega,⟨⟨HE.out,HN.out,H2.out⟩⟩⟩
     case measure=>simp[intOf];omega
    ·rw[decide_eq_false h2]at eL;have H2:=zZ (HB.out.no HX.out (by rw[HD.out,decide_eq_false h2];simp));clear h2 HB hk2;go_wp2_with fail;go_roundw
     case rel=>exact⟨k+1,a,d,rfl,rfl,by go_num,by omega,⟨⟨HE.out,HN.out,H2.out⟩⟩⟩
     case measure=>simp[intOf];omega
   have h2b:(kd==2)=false:=beq_eq_false_iff_ne.2 hk2;by_cases hk3:kd=3
   ·have h3b:(kd==3)=true:=by rw[hk3];rfl
    replace hk2:=zZ hk2;by_cases h2:ts=si/\tq=qi
    ·rw[decide_eq_true h2]at eL;have H2:=zZ (cV.put HX.out (by rw[HD.out,decide_eq_true h2];simp[hk3]));clear h2 HB hk3;go_wp2_with fail;go_roundw
     case rel=>exact⟨k+1,a,k,rfl,rfl,by go_num,by omega,⟨⟨HE.out,HN.out,H2.out⟩⟩⟩
     case measure=>simp[intOf];omega
    ·rw[decide_eq_false h2]at eL;have H2:=zZ (HB.out.no HX.out (by rw[HD.out,decide_eq_false h2];simp));clear h2 HB hk3;go_wp2_with fail;go_roundw
     case rel=>exact⟨k+1,a,d,rfl,rfl,by go_num,by omega,⟨⟨HE.out,HN.out,H2.out⟩⟩⟩
     case measure=>simp[intOf];omega
   have h3b:(kd==3)=false:=beq_eq_false_iff_ne.2 hk3;have H2:=zZ (HB.out.no HX.out (by rw[HD.out,decide_eq_false hk2,decide_eq_false hk3];rfl));clear hk2 hk3 HB eL gL;go_wp2_with fail;go_roundw
   case rel=>exact⟨k+1,a,d,rfl,rfl,by go_num,by omega,⟨⟨HE.out,HN.out,H2.out⟩⟩⟩
   case measure=>simp[intOf];omega
  ·obtain rfl:n=k:=by omega
   have HA:=HR.out.2.1;have HB:=HR.out.2.2;rw[<-HL.out]at HA HB;have HF2:Bx (aA w wr [(w.heap.size,#[B C si,B C qi],43),(w.heap.size+1,#[B C 0,B C 0,B C 0,B C 0],45)]):=⟨HR.out.1⟩
   clear HR;rcases By HA HB with ⟨ha,he⟩|⟨j,c0,ha,hj,h⟩
   ·have HE:=zZ he;subst ha;clear HA HB he;obtain⟨z0,z1,z2,z3⟩:=(HF2.out.at_ 1 rfl).p4 rfl;have f0:=(HF2.out.at_ 1 rfl).froz;have f1:=f0;have f2:=f0;have f3:=f0;go_wp2_with fail;have h9:=HF2.out.setAll 1 rfl [B C 0,B C 0,B C 0,B C 0] rfl;refine bodyPost_ret (v:=.tuple #[.agg #[B C 0,B C 0,B C 0,B C 0],B C 4]) (by simp[results,results29,go_sem,z0,z1,z2,z3]) rfl ⟨0,0,0,0,4,rfl,HE.out,h9.xt⟩
   ·have hjn:j<n:=by have:=(zY.1 hj).1;have:=HL.out;omega
    subst ha;clear HA HB;obtain⟨b,off,_,_,rfl,-⟩:=HV.out.at_ hjn;rcases h with ⟨hd,he⟩|⟨i,e0,hd,hi,he⟩
    ·subst hd;obtain⟨t,s,q,kd,ct,ts,tq,lp,lc,lg,lv,str,ch,Au,mu,cu,HX,hcs,-,-⟩:=au.read HV.out HF2.out.xt.xt hjn;have hcc:=HX.out;rw[hj]at hcc;injection hcc with hcc;subst hcc;have HE:=zZ he;have c4:=hcs.c4;clear he hj hcs HX;go_wp2_with fail;refine (Gl (ba str) _ (HT.out.ext HF2.out.xt)).mono ?_;rintro e w2 ⟨rp,rc,rg,rv,rn,rk,rfl,hrf,-,-,-,-,-,-,hx2⟩;rw[JR]at hrf;have HF3:=bx (HF2.out.ext hx2);clear hx2 c4 HF2;obtain⟨z0,z1,z2,z3⟩:=(HF3.out.at_ 1 rfl).p4 rfl;have f0:=(HF3.out.at_ 1 rfl).froz;have f1:=f0;have f2:=f0;have f3:=f0;go_upto_region 21 with (fail)
     obtain⟨w4,hw4⟩:=nm ((be w2 (w.heap.size+1) 0 [B C rp,B C rc,B C rg,B C rv]):World);have HF4:Bx (aA w w4 [(w.heap.size,#[B C si,B C qi],43),(w.heap.size+1,#[B C rp,B C rc,B C rg,B C rv],45)]):=⟨by rw[hw4];exact HF3.out.setAll 1 rfl [B C rp,B C rc,B C rg,B C rv] rfl⟩
     simp only[be,Nat.reduceAdd,yV]at hw4;rw[<-hw4];clear hw4 HF3 z0 z1 z2 z3 f0 f1 f2 f3;obtain⟨z0,z1,z2,z3⟩:=(HF4.out.at_ 1 rfl).p4 rfl;have f0:=(HF4.out.at_ 1 rfl).froz;have f1:=f0;have f2:=f0;have f3:=f0;by_cases hk0:rk=0
     ·subst hk0;have HO:=zZ (mA hrf);clear hrf;go_wp2_with fail;have h9:=HF4.out.setAll 1 rfl [B C rp,B C rc,B C rg,B C rv] rfl;refine bodyPost_ret (v:=.tuple #[.agg #[B C rp,B C rc,B C rg,B C rv],B C 0]) (by simp[results,results29,go_sem,z0,z1,z2,z3]) rfl ⟨rp,rc,rg,rv,0,rfl,by rw[HE.out,HO.out],h9.xt⟩
     ·have HO:=zZ (mJ hrf hk0);have hkb:(rk != 0)=true:=by simp[hk0]
      replace hk0:=zZ hk0;clear hrf;go_wp2_with fail;have h9:=HF4.out.setAll 1 rfl [B C 0,B C 0,B C 0,B C 0] rfl;refine bodyPost_ret (v:=.tuple #[.agg #[B C 0,B C 0,B C 0,B C 0],B C 4]) (by simp[results,results29,go_sem,z0,z1,z2,z3]) rfl ⟨0,0,0,0,4,rfl,by rw[HE.out,HO.out];rfl,h9.xt⟩
    ·subst hd;have hin:i<n:=by have:=(zY.1 hi).1;have:=HL.out;omega
     obtain⟨t,s,q,kd,ct,ts,tq,lp,lc,lg,lv,str,ch,Au,mu,cu,HX,hcs,-,-⟩:=au.read HV.out HF2.out.xt.xt hin;have hcc:=HX.out;rw[hi]at hcc;injection hcc with hcc;subst hcc;have c3:=hcs.c3;have c9:=hcs.c9;have c10:=hcs.c10;have c11:=hcs.c11;have c12:=hcs.c12;obtain⟨z0,z1,z2,z3⟩:=(HF2.out.at_ 1 rfl).p4 rfl;have f0:=(HF2.out.at_ 1 rfl).froz;have f1:=f0;have f2:=f0;have f3:=f0;simp only at he;by_cases hk3:kd=3
     ·rw[if_pos hk3]at he;have HE:=zZ he;have hkb:(kd==3)=true:=by rw[hk3];rfl
      replace hk3:=zZ hk3;clear he hi hj hcs HX;go_wp2_with fail;have h9:=HF2.out.setAll 1 rfl [B C 0,B C 0,B C 0,B C 0] rfl;refine bodyPost_ret (v:=.tuple #[.agg #[B C 0,B C 0,B C 0,B C 0],B C 6]) (by simp[results,results29,go_sem,z0,z1,z2,z3]) rfl ⟨0,0,0,0,6,rfl,HE.out,h9.xt⟩
     ·rw[if_neg hk3]at he;have HE:=zZ he;have hkb:(kd==3)=false:=beq_eq_false_iff_ne.2 hk3;replace hk3:=zZ hk3;clear he hi hj hcs HX;go_wp2_with fail;have h9:=HF2.out.setAll 1 rfl [B C lp,B C lc,B C lg,B C lv] rfl;refine bodyPost_ret (v:=.tuple #[.agg #[B C lp,B C lc,B C lg,B C lv],B C 0]) (by simp[results,results29,go_sem,z0,z1,z2,z3]) rfl ⟨lp,lc,lg,lv,0,rfl,HE.out,h9.xt⟩
def GC(l:List aj)(j:Nat)(c:aj):Prop:=∀(i:Nat) d,i<j->l[i]?=some d->d.st≠c.st
def iA(l:List aj)(k:Nat)(M:Value->Option Value):Prop:=∀x v,M x=some v↔∃(j:Nat) (c:aj),j<k/\l[j]?=some c/\x=zx c.st/\v=B C (j:Int)/\GC l j c
def JE(l:List aj)(k:Nat)(ss:List bN):Prop:=ss.length=l.length/\∀(i:Nat) a,i<k->l[i]?=some a->ss[i]?=some a.st
def pf(l:List aj)(k:Nat)(cs:List Int):Prop:=cs.length=l.length/\(∀(i:Nat) (a:aj),i<k->l[i]?=some a->∃(c:Nat) (b:aj),c<=i/\l[c]?=some b/\b.st=a.st/\GC l c a/\cs[i]?=some (if b=a then 0 else 1))/\∀i,k<=i->i<l.length->cs[i]?=some 0
section
variable {l:List aj} {k j:Nat} {M:Value->Option Value} {c b:aj} {ss:List bN} {cs:List Int}
theorem iA.zero(l:List aj):iA l 0 (fun _=>none):=fun x v=>⟨fun h=>(nomatch h),fun⟨_,_,h,_⟩=>absurd h (Nat.not_lt_zero _)⟩
theorem iA.there(h:iA l k M)(hc:l[k]?=some c){v:Value}(hm:M (zx c.st)=some v):∃(j:Nat) (b:aj),v=B C (j:Int)/\j<k/\l[j]?=some b/\b.st=c.st/\GC l j c:=by obtain⟨j,b,h1,h2,h3,h4,h5⟩:=(h _ _).1 hm;have e:=Dv.1 h3;exact⟨j,b,h4,h1,h2,e.symm,fun i d hi hd=>by rw[e];exact h5 i d hi hd⟩
theorem iA.none_(h:iA l k M)(hm:M (zx c.st)=none):GC l k c:=by
 intro i d hi hd e;obtain⟨m,hm1,hm2⟩:∃m,m<=i/\(∃b,l[m]?=some b/\b.st=c.st/\GC l m c):=by
  have:∀n i,i<=n->∀d,l[i]?=some d->d.st=c.st->∃m,m<=i/\∃b,l[m]?=some b/\b.st=c.st/\GC l m c:=by
   intro n;induction n with
   |zero =>
    intro i hi d hd e;obtain rfl:i=0:=by omega
    exact⟨0,zX _,d,hd,e,fun q _ hq=>by omega⟩
   |succ n ih =>
    intro i hi d hd e;by_cases hf:GC l i c
    ·exact⟨i,zX _,d,hd,e,hf⟩
    ·unfold GC at hf;have⟨q,hq⟩:=Classical.not_forall.1 hf;have⟨d',hd'⟩:=Classical.not_forall.1 hq;have⟨h1,h2⟩:=Classical.not_imp.1 hd';have⟨h3,h4⟩:=Classical.not_imp.1 h2;obtain⟨m,m1,m2⟩:=ih q (by omega) d' h3 (Classical.not_not.1 h4);exact⟨m,by omega,m2⟩
  exact this i i (zX _) d hd e
 obtain⟨b,b1,b2,b3⟩:=hm2;have:=(h (zx c.st) (B C (m:Int))).2 ⟨m,b,by omega,b1,by rw[b2],rfl,fun q d hq hd=>by rw[b2];exact b3 q d hq hd⟩;rw[hm]at this;cases this
theorem iA.skip(h:iA l k M)(hc:l[k]?=some c){v:Value}(hm:M (zx c.st)=some v):iA l (k+1) M:=by
 obtain⟨j,b,-,h1,h2,h3,-⟩:=h.there hc hm;intro x v;rw[h x v];constructor
 ·rintro⟨i,a,ha,r⟩;exact⟨i,a,by omega,r⟩
 ·rintro⟨i,a,ha,h4,h5,h6,h7⟩;refine⟨i,a,?_,h4,h5,h6,h7⟩;rcases zU i k with hlt|hge
  ·exact hlt
  ·obtain rfl:i=k:=by omega
   rw[hc]at h4;injection h4 with h4;subst h4
   exact absurd h3 (h7 j b h1 h2)
theorem iA.put(h:iA l k M)(hc:l[k]?=some c)(hm:M (zx c.st)=none):iA l (k+1) (Be M (zx c.st) (B C (k:Int))):=by
 have hf:=h.none_ hm;intro x v;by_cases e:x=zx c.st
 ·subst e;rw[po];constructor
  ·intro h';injection h' with h';exact⟨k,c,by omega,hc,rfl,h'.symm,hf⟩
  ·rintro⟨i,a,ha,h4,h5,h6,h7⟩;rcases zU i k with hlt|hge
   ·exact absurd (Dv.1 h5).symm (hf i a hlt h4)
   ·obtain rfl:i=k:=by omega
    rw[h6]
 ·rw[vj e,h x v];constructor
  ·rintro⟨i,a,ha,r⟩;exact⟨i,a,by omega,r⟩
  ·rintro⟨i,a,ha,h4,h5,h6,h7⟩;refine⟨i,a,?_,h4,h5,h6,h7⟩;rcases zU i k with hlt|hge
   ·exact hlt
   ·obtain rfl:i=k:=by omega
    rw[hc]at h4;injection h4 with h4;subst h4
    exact absurd h5 e
theorem JE.zero(l:List aj)(z:bN):JE l 0 (List.replicate l.length z):=⟨by simp,fun i a hi=>by omega⟩
theorem JE.put(h:JE l k ss)(hc:l[k]?=some c):JE l (k+1) (ss.set k c.st):=by
 have hk:=(zY.1 hc).1;refine⟨by rw[yF];exact h.1,fun i a hi ha=>?_⟩;rw[yD];by_cases e:k=i
 ·subst e;rw[if_pos rfl,if_pos (by have:=h.1;omega)];rw[hc]at ha;injection ha with ha;rw[ha]
 ·rw[if_neg e];exact h.2 i a (by omega) ha
theorem JE.all(h:JE l l.length ss):ss=l.map aj.st:=by
 apply xW;intro i;by_cases hi:i<l.length
 ·rw[h.2 i _ hi (zV hi),zP,zV hi];rfl
 ·rw[zC (by have:=h.1;omega),zC (by simp;omega)]
theorem pf.zero(l:List aj):pf l 0 (List.replicate l.length 0):=⟨by simp,fun i a hi=>by omega,fun i _ hi=>by simp[hi]⟩
theorem pf.keep(h:pf l k cs)(hc:l[k]?=some c)(hj:j<=k)(hb:l[j]?=some b)(hs:b.st=c.st)(hf:GC l j c)(he:b=c):pf l (k+1) cs:=by
 have hk:=(zY.1 hc).1;refine⟨h.1,fun i a hi ha=>?_,fun i hi=>h.2.2 i (by omega)⟩;rcases zU i k with hlt|hge
 ·exact h.2.1 i a hlt ha
 ·obtain rfl:i=k:=by omega
  rw[hc]at ha;injection ha with ha;subst ha
  exact⟨j,b,hj,hb,hs,hf,by rw[if_pos he];exact h.2.2 i (zX _) hk⟩
theorem pf.put(h:pf l k cs)(hc:l[k]?=some c)(hj:j<=k)(hb:l[j]?=some b)(hs:b.st=c.st)(hf:GC l j c)(he:b≠c):pf l (k+1) (cs.set k 1):=by
 have hk:=(zY.1 hc).1;refine⟨by rw[yF];exact h.1,fun i a hi ha=>?_,fun i hi hil=>?_⟩
 ·rcases zU i k with hlt|hge
  ·obtain⟨c',b',r1,r2,r3,r4,r5⟩:=h.2.1 i a hlt ha;exact⟨c',b',r1,r2,r3,r4,by rw[yD,if_neg (by omega)];exact r5⟩
  ·obtain rfl:i=k:=by omega
   rw[hc]at ha;injection ha with ha;subst ha
   exact⟨j,b,hj,hb,hs,hf,by rw[if_neg he,yD,if_pos rfl,if_pos (by have:=h.1;omega)]⟩
 ·rw[yD,if_neg (by omega)];exact h.2.2 i (by omega) hil
theorem pf.all(h:pf l l.length cs):Df l cs:=⟨h.1,fun i a ha=>by obtain⟨c,b,r1,r2,r3,r4,r5⟩:=h.2.1 i a (zY.1 ha).1 ha;exact⟨c,b,r1,r2,r3,fun j d hj hd=>r4 j d hj hd,r5⟩⟩
end
theorem Tryz.infoStm:(prog.info? 41).map (fun i=>(i.zero,i.size,i.bytes))=some (some (.agg #[B C 0,B C 0,B C 0]),3,24):=by kernel_rfl
theorem EP(n:Nat)(hn:n<=1000)(w:World):(Instr.makeSlice 103 (B C (n:Int)) (B C (n:Int))).run prog w=.ok (D (some ⟨w.heap.size,0,none⟩) n n) (w.alloc (.cells (madeCells #[B C 0,B C 0,B C 0] (n*3)) 41)):=by obtain⟨i,hi,h0,h1,h2⟩:=info_parts Tryz.infoStm;have h:=run_make (P:=prog) w 103 41 i _ underlying103 hi h0 .i64 .i64 n n (by omega) (Int.le_refl _) (by rw[h2];omega) (by omega);rw[yC,h1]at h;exact h
theorem EZ(n:Nat)(hn:n<=1000)(w:World):(Instr.makeSlice 22 (B C (n:Int)) (B C (n:Int))).run prog w=.ok (D (some ⟨w.heap.size,0,none⟩) n n) (w.alloc (.cells (madeCells #[B C 0] n) 3)) :=
 run_make_row' 22 3 (B C 0) 8 underlying22 Tryz.infoI rfl .i64 .i64 n (by omega) (by omega) w
structure im (l:List aj) (w wr:World) (b1 b2 b3 n ks k:Nat) (ss:List bN) (cs:List Int) (M:Value->Option Value):Prop where
 x:ab w wr
 st:ah b1 41 3 (oT w) wr (D (some ⟨b1,0,none⟩) n n) ss
 cl:wr.ownsRow b2 3 1 (D (some ⟨b2,0,none⟩) n n) n (cs.map (Value.int .i64))
 mp:eJ prog 41 wr b3 M
 sk:JE l ks ss
 ck:pf l k cs
 mo:iA l k M
 g1:w.heap.size<=b1
 g2:b1<b2
 g3:b2<b3
section
variable {l:List aj} {w wr w':World} {b1 b2 b3 n ks k:Nat} {ss:List bN} {cs:List Int} {M:Value->Option Value}
theorem im.ext(h:im l w wr b1 b2 b3 n ks k ss cs M)(x:ab wr w'):im l w w' b1 b2 b3 n ks k ss cs M :=
 ⟨h.x.trans x,h.st.ext x,ao h.cl x,h.mp.ext x,h.sk,h.ck,h.mo,h.g1,h.g2,h.g3⟩
theorem im.lt(h:im l w wr b1 b2 b3 n ks k ss cs M):b3<wr.heap.size:=h.mp.lt
theorem im.stamp(h:im l w wr b1 b2 b3 n k k ss cs M){c:aj}(hc:l[k]?=some c)(hk:k<n)(hw:c.st.wf):im l w (be wr b1 (k*3) c.st.cells) b1 b2 b3 n (k+1) k (ss.set k c.st) cs M:=by have hg:=ez b1 c.st.cells wr (k*3);have h1:=h.g2;have h2:=h.g3;exact⟨h.x.grown hg (fun kk e=>by injection e with e;have:=h.g1;omega),h.st.putAll hk _ rfl ⟨rfl,hw⟩,h.cl.kept hg (.inr (fun e=>by simp only[Value.ownBlock]at e;injection e with e;omega)),h.mp.grown hg (fun e=>by injection e with e;omega),h.sk.put hc,h.ck,h.mo,h.g1,h.g2,h.g3⟩
theorem im.cls(h:im l w wr b1 b2 b3 n ks k ss cs M)(hk:k<n)(hc:pf l (k+1) (cs.set k 1))(hm:iA l (k+1) M):im l w (wr.setCell ⟨b2,k,none⟩ (B C 1)) b1 b2 b3 n ks (k+1) ss (cs.set k 1) M:=by
 have hg:wr.grownBy (wr.setCell ⟨b2,k,none⟩ (B C 1)) (some b2):=⟨rfl,rfl,rfl,by simp[World.setCell],fun kk _ hne=>yP _ _ _ _ (fun e=>hne (by rw[e]))⟩
 have h1:=h.g2;have h2:=h.g3;exact⟨h.x.grown hg (fun kk e=>by injection e with e;have:=h.g1;omega),h.st.grown hg (.inr (fun e=>by simp only[Value.ownBlock]at e;injection e with e;omega)),AR h.cl hk,h.mp.grown hg (fun e=>by injection e with e;omega),h.sk,hc,hm,h.g1,h.g2,h.g3⟩
end
theorem KP{l:List aj}{cs:List Int}(h:Df l cs):∀x∈cs,aU x:=by intro x hx;obtain⟨i,hi⟩:=zH hx;have hil:=(zY.1 hi).1;obtain⟨c,b,-,-,-,-,h5⟩:=h.2 i _ (zV (by have:=h.1;omega));rw[hi]at h5;injection h5 with h5;subst h5;split<;>constructor<;>omega
def GQ(l:List aj)(base:Nat)(v:Value)(w':World):Prop:=∃(b1 b2 n:Nat) (cs:List Int),v=.tuple #[D (some ⟨b1,0,none⟩) n n,D (some ⟨b2,0,none⟩) n n]/\n=l.length/\oI base w' (D (some ⟨b1,0,none⟩) n n) (l.map aj.st)/\ak base w' (D (some ⟨b2,0,none⟩) n n) cs/\Df l cs
theorem IZ:bN.wf ⟨0,0,0⟩:=⟨⟨by decide,by decide⟩,⟨by decide,by decide⟩,⟨by decide,by decide⟩⟩
theorem CY(v:Value)(l:List aj)(w:World){p:Nat}(hv:au p w v l)(hl:l.length<=300)(hw0:0<w.heap.size) :
  Calls prog 97 #[v,.func (.func 58) #[] #[],.func (.func 26) #[] #[]] w fun e w'=>(∃vo,e=.returned vo/\GQ l 0 vo w')/\ab w w':=by
 obtain⟨A,n,c,rfl,hnc,hcc,hnn,HL⟩:=hv.open_;have HV:Bx (au p w (D A n c) l):=⟨hv⟩
 have hn1:n<=300:=by have:=HL.out;omega
 clear hv hl;have hm1:=fun W=>EP n (by omega) W;have hm2:=fun W=>EZ n (by omega) W;have hmm:=@run_makeMap prog;go_enter func97,ntmps97
 go_upto_region 4 with (fail)
 clear hm1 hm2 hmm;obtain⟨b1,hb1⟩:=nm w.heap.size;obtain⟨w1,hw1⟩:=nm (w.alloc (.cells (madeCells #[B C 0,B C 0,B C 0] (n*3)) 41));obtain⟨b2,hb2⟩:=nm w1.heap.size;obtain⟨w2,hw2⟩:=nm (w1.alloc (.cells (madeCells #[B C 0] n) 3));obtain⟨b3,hb3⟩:=nm w2.heap.size;obtain⟨w3,hw3⟩:=nm (w2.alloc (.map #[] 0));have s1:w1.heap.size=w.heap.size+1:=by rw[hw1];simp
 have s2:w2.heap.size=w1.heap.size+1:=by rw[hw2];simp
 have e2:w.heap.size+1=b2:=by omega
 have e3:b2+1=b3:=by omega
 have HS:Bx (im l w w3 b1 b2 b3 n 0 0 (List.replicate l.length ⟨0,0,0⟩) (List.replicate l.length 0) (fun _=>none)):=⟨by
  have x1:ab w w1:=by rw[hw1];exact (zE _).alloc _
  have x2:ab w1 w2:=by rw[hw2];exact (zE _).alloc _
  have x3:ab w2 w3:=by rw[hw3];exact (zE _).alloc _
  have o1:=ah.made (e:=41) (R:=oT w) w [B C 0,B C 0,B C 0] ⟨0,0,0⟩ n (by decide) (by omega) ⟨rfl,IZ⟩;have o2:=Bt (e:=3) w1 [B C 0] n (by decide) (by omega);simp only[xQ,List.length_nil,yV,Nat.reduceAdd,wH]at o1 o2;refine⟨(x1.trans x2).trans x3,?_,?_,?_,JE.zero l _,pf.zero l,iA.zero l,by omega,by omega,by omega⟩
  ·rw[HL.out,hb1];rw[<-hw1]at o1;exact (o1.ext x2).ext x3
  ·rw[HL.out,hb2];rw[<-hw2]at o2;have:=ao o2 x3;simpa using this
  ·rw[hb3,hw3];exact eJ.made _ _ _⟩
 rw[e2,e3,<-hb1];rw[<-hw1,<-hw2,<-hw3];clear hw1 hw2 hw3 hb1 hb2 hb3 s1 s2 e2 e3;go_wp2_with fail;go_loopw [24] (fun s24 wr=>∃(k:Nat) (ss:List bN) (cs:List Int) (M:Value->Option Value),s24=B C k/\k<=n/\Bx (im l w wr b1 b2 b3 n k k ss cs M)) (fun k _=>n-(intOf k).toNat)
 case atStart=>exact⟨0,_,_,_,rfl,by omega,HS⟩
 case round =>
  obtain⟨k,ss,cs,M,rfl,hk,HR⟩:=hrel;clear HS;by_cases hkn:k<n
  ·obtain⟨b,off,_,_,rfl,-⟩:=HV.out.at_ hkn;obtain⟨t,s,q,kd,ct,ts,tq,lp,lc,lg,lv,str,ch,Au,mu,cu,HX,hcs,hI,hwf⟩:=au.read HV.out (XT.refl p w) hkn;replace hcs:=hcs.ext HR.out.x;obtain⟨c0,c1,c2,c3,c4,c5,c6,c7,c8,c9,c10,c11,c12⟩:=hcs;have HI:Bx (ak p w (D Au mu cu) ch):=⟨hI⟩
   have HW:Bx (bN.wf ⟨t,s,q⟩):=⟨hwf.1⟩
   clear hI hwf;go_upto_region 7 with (fail)
   obtain⟨g,hg⟩:=nm wr.heap.size;obtain⟨w4,hw4⟩:=nm ((wr.alloc (.cells #[B C t,B C s,B C q,B C kd,.string (ba str),B C ct,D Au mu cu,B C ts,B C tq,B C lp,B C lc,B C lg,B C lv] 47)):World);have hX4:ab wr w4:=by rw[hw4];exact (zE _).alloc _
   have HS4:=zZ (HR.out.ext hX4);have HX4:=zZ hX4;have hB4:Bk w4 g #[B C t,B C s,B C q,B C kd,.string (ba str),B C ct,D Au mu cu,B C ts,B C tq,B C lp,B C lc,B C lg,B C lv] 47:=by rw[hw4,hg];exact Bk.new _ _ _
   have hgl:b3<g:=by rw[hg];exact HR.out.lt
   rw[<-hw4,<-hg];clear hw4 hg HR c0 c1 c2 c3 c4 c5 c6 c7 c8 c9 c10 c11 c12 hX4;obtain⟨y0,y1,y2,y3,y4,y5,y6,y7,y8,y9,y10,y11,y12⟩:=(hB4).p13 rfl;have HB4:=zZ hB4;clear hB4;go_upto_region 8 with (go_at_call 58;refine (Ih t s q kd ct ts tq lp lc lg lv _ Au mu cu _).mono ?_;rintro e w5 ⟨rfl,hx5⟩;obtain⟨cs0,x00,-,⟨rfl,-⟩,-,hcl,hfz⟩:=(HS4.out.ext hx5).st.cellsAt hkn;have z0:=hcl 0 _ rfl;have z1:=hcl 1 _ rfl;have z2:=hcl 2 _ rfl;have f0:=hfz (k*3);have f1:=hfz (k*3+1);have f2:=hfz (k*3+2);rw[yQ]at z0;have HX5:=zZ hx5;clear hcl hfz hx5)
   have hS6:=(HS4.out.ext HX5.out).stamp HX.out hkn HW.out;have hB6:=(HB4.out.ext HX5.out).grown (ez b1 (bN.cells ⟨t,s,q⟩) w5 (k*3)) (fun e=>by injection e with e;have:=HS4.out.g2;have:=HS4.out.g3;omega);obtain⟨w6,hw6⟩:=nm (be w5 b1 (k*3) (bN.cells ⟨t,s,q⟩));simp only at hS6;rw[<-hw6]at hS6 hB6;simp only[bN.cells,be,wC,Nat.reduceAdd]at hw6;rw[<-hw6];have HS6:=zZ hS6;have HB6:=zZ hB6;obtain⟨cs0,x0,-,⟨rfl,-⟩,hx0,hcl,-⟩:=hS6.st.cellsAt hkn;obtain rfl:x0=⟨t,s,q⟩:=by
    have:=hx0.out;rw[yD,if_pos rfl]at this;split at this
    ·injection this with this;exact this.symm
    ·cases this
   have z0:=hcl 0 _ rfl;have z1:=hcl 1 _ rfl;have z2:=hcl 2 _ rfl;rw[yQ]at z0;obtain⟨kl,hkl⟩:=EH HW.out;have hlk:=(hS6.mp.look ti underlying176 (zeroValue3 w6) hkl).2;clear hx0 hcl hw6 hS6 hB6 HX5 HS4 y0 y1 y2 y3 y4 y5 y6 y7 y8 y9 y10 y11 y12;cases hM:M (zx ⟨t,s,q⟩) with
   |none =>
    rw[hM]at hlk;simp only[Option.getD_none,Option.isSome_none,zx]at hlk;have HF:=zZ (HS6.out.mo.none_ (c:=⟨⟨t,s,q⟩,kd,str,ct,ch,⟨ts,tq⟩,⟨lp,lc,lg,lv⟩⟩) hM);have HMN:=zZ hM;clear hM;go_upto_region 10 with (fail)
    clear hlk;go_wp2_with (at_mapUpdate;refine ul _ rfl (.tmp 46) (.tmp 50) (.tmp 51) 176 rfl 41 3 ti underlying176 b3 M rfl HS6.out.mp _ _ kl rfl rfl hkl ?_;intro w7 hm7 hg7);have HS7:Bx (im l w w7 b1 b2 b3 n (k+1) (k+1) (ss.set k ⟨t,s,q⟩) cs (Be M (zx ⟨t,s,q⟩) (B C (k:Int)))):=⟨by have h:=HS6.out;have h1:=h.g1;have h2:=h.g2;have h3:=h.g3;exact⟨h.x.grown hg7 (fun kk e=>by injection e with e;omega),h.st.grown hg7 (.inr (fun e=>by simp only[Value.ownBlock]at e;injection e with e;omega)),h.cl.kept hg7 (.inr (fun e=>by simp only[Value.ownBlock]at e;injection e with e;omega)),hm7,h.sk,h.ck.keep HX.out (zX _) HX.out rfl HF.out rfl,h.mo.put (c:=⟨⟨t,s,q⟩,kd,str,ct,ch,⟨ts,tq⟩,⟨lp,lc,lg,lv⟩⟩) HX.out HMN.out,h.g1,h.g2,h.g3⟩⟩
    clear hm7 hg7 z0 z1 z2;go_wp2_with fail;go_roundw
    case rel=>exact⟨k+1,_,_,_,by go_num,by omega,HS7⟩
    case measure=>simp[intOf];omega
   |some v =>
    obtain⟨j,bc,rfl,hj,hbj,hst,hfst⟩:=HS6.out.mo.there (c:=⟨⟨t,s,q⟩,kd,str,ct,ch,⟨ts,tq⟩,⟨lp,lc,lg,lv⟩⟩) HX.out hM;rw[hM]at hlk;simp only[Option.getD_some,Option.isSome_some,zx]at hlk;have HMO:=zZ (HS6.out.mo.skip (c:=⟨⟨t,s,q⟩,kd,str,ct,ch,⟨ts,tq⟩,⟨lp,lc,lg,lv⟩⟩) HX.out hM);clear hM;obtain⟨t',s',q',kd',ct',ts',tq',lp',lc',lg',lv',str',ch',Au',mu',cu',HXj,hcs,hIj,-⟩:=au.read HV.out HS6.out.x.xt (show j<n by omega);obtain rfl:bc=⟨⟨t',s',q'⟩,kd',str',ct',ch',⟨ts',tq'⟩,⟨lp',lc',lg',lv'⟩⟩:=by have:=HXj.out;rw[hbj]at this;injection this
    obtain⟨c0,c1,c2,c3,c4,c5,c6,c7,c8,c9,c10,c11,c12⟩:=hcs;have HBJ:Bx (GC l j ⟨⟨t,s,q⟩,kd,str,ct,ch,⟨ts,tq⟩,⟨lp,lc,lg,lv⟩⟩/\(⟨t',s',q'⟩:bN)=⟨t,s,q⟩):=⟨⟨hfst,hst⟩⟩
    have HIJ:Bx (ak p w6 (D Au' mu' cu') ch'):=⟨hIj⟩
    obtain⟨y0,y1,y2,y3,y4,y5,y6,y7,y8,y9,y10,y11,y12⟩:=(HB6.out).p13 rfl;go_upto_region 11 with (fail)
    have hjn:j<n:=by omega
    clear hlk hst hfst z0 z1 z2 hkl hIj;have HBJ2:=zZ hbj;clear hbj;refine zQ 99 fun wd kS=>?_;refine zS 6 [(0,52),(1,53),(2,54),(3,55),(4,56),(5,57)] kS ?_;iterate 6 refine zT ?_ (y:=by intro wk hk;obtain⟨_,_,_,_,_,_,_,_⟩:=zkc8 hk c0 c1 c2 c3 c4 c5 c6 c7;obtain⟨_,_,_,_,_,_,_,_⟩:=zkc8 hk c8 c9 c10 c11 c12 y0 y1 y2;obtain⟨_,_,_,_,_,_,_,_⟩:=zkc8 hk y3 y4 y5 y6 y7 y8 y9 y10;obtain⟨_,_⟩:=zkc2 hk y11 y12;go_simp;try with_reducible rfl)
    refine zN (zO 6 (fun K hK=>?_));go_simp;refine (jq t' s' q' kd' ct' ts' tq' lp' lc' lg' lv' t s q kd ct ts tq lp lc lg lv str' str ch' ch Au' Au mu' cu' mu cu _ (HIJ.out.ext kS) (HI.out.ext (HS6.out.x.trans kS))).mono ?_;rintro e w7 ⟨rfl,hx7⟩;have kS2:ab w6 w7:=kS.trans hx7;clear hx7;refine hK.out _ _ (fun _=>kS2) ?_;clear hK K;try simp only[kA]
    by_cases he:(⟨⟨t',s',q'⟩,kd',str',ct',ch',⟨ts',tq'⟩,⟨lp',lc',lg',lv'⟩⟩:aj)=⟨⟨t,s,q⟩,kd,str,ct,ch,⟨ts,tq⟩,⟨lp,lc,lg,lv⟩⟩
    ·have hd:decide ((⟨⟨t',s',q'⟩,kd',str',ct',ch',⟨ts',tq'⟩,⟨lp',lc',lg',lv'⟩⟩:aj)=⟨⟨t,s,q⟩,kd,str,ct,ch,⟨ts,tq⟩,⟨lp,lc,lg,lv⟩⟩)=true:=decide_eq_true he;have HE:=zZ he;rw[hd];clear hd he;refine zS 1 [(7,59)] kS2 ?_;refine zT ?_;refine zN (zD ?_);have HS7:Bx (im l w w7 b1 b2 b3 n (k+1) (k+1) (ss.set k ⟨t,s,q⟩) cs M):=⟨by
      have h:=HS6.out.ext kS2;exact⟨h.x,h.st,h.cl,h.mp,h.sk,h.ck.keep HX.out (by omega) HBJ2.out HBJ.out.2 HBJ.out.1 HE.out,HMO.out,h.g1,h.g2,h.g3⟩⟩
     clear kS2 c0 c1 c2 c3 c4 c5 c6 c7 c8 c9 c10 c11 c12 y0 y1 y2 y3 y4 y5 y6 y7 y8 y9 y10 y11 y12;go_wp2_with fail;go_roundw
     case rel=>exact⟨k+1,_,_,_,by go_num,by omega,HS7⟩
     case measure=>simp[intOf];omega
    ·have hd:decide ((⟨⟨t',s',q'⟩,kd',str',ct',ch',⟨ts',tq'⟩,⟨lp',lc',lg',lv'⟩⟩:aj)=⟨⟨t,s,q⟩,kd,str,ct,ch,⟨ts,tq⟩,⟨lp,lc,lg,lv⟩⟩)=false:=decide_eq_false he;have HE:=zZ he;rw[hd];clear hd he;refine zS 1 [(7,59)] kS2 ?_;refine zT ?_;refine zN (zD ?_);have hS7:=HS6.out.ext kS2;obtain⟨x,k0,k1⟩:=Cv hS7.cl hkn;have HS7:=zZ (hS7.cls hkn (hS7.ck.put HX.out (by omega) HBJ2.out HBJ.out.2 HBJ.out.1 HE.out) HMO.out);clear hS7 kS2 c0 c1 c2 c3 c4 c5 c6 c7 c8 c9 c10 c11 c12 y0 y1 y2 y3 y4 y5 y6 y7 y8 y9 y10 y11 y12;go_wp2_with fail;go_roundw
     case rel=>exact⟨k+1,_,_,_,by go_num,by omega,⟨HS7.out⟩⟩
     case measure=>simp[intOf];omega
  ·obtain rfl:n=k:=by omega
   have HE:Bx (GQ l 0 (.tuple #[D (some ⟨b1,0,none⟩) n n,D (some ⟨b2,0,none⟩) n n]) wr/\ab w wr):=⟨by
    have h:=HR.out;have h1:=h.g1;have h2:=h.g2;have hck:=h.ck;have hsk:=h.sk;rw[<-HL.out]at hck hsk;have hcw:=hck.all;refine⟨⟨b1,b2,n,cs,rfl,HL.out.symm,?_,?_,hcw⟩,h.x⟩
    ·rw[<-hsk.all];exact h.st.isS (by decide) (by omega) (fun _ _ h=>h)
    ·exact ak.of_own h.cl (by omega) (KP hcw) (by rw[hcw.1,HL.out];omega)⟩
   clear HR;go_wp2_with fail;exact bodyPost_ret (v:=.tuple #[D (some ⟨b1,0,none⟩) n n,D (some ⟨b2,0,none⟩) n n]) (by simp[results,results97,go_sem]) rfl ⟨⟨_,rfl,HE.out.1⟩,HE.out.2⟩
end Go.Proofs.YtkaajgoeahahpaaGreatDoor

