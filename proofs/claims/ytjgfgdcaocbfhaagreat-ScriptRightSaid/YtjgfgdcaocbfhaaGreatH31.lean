import Derived.Test.YtjgfgdcaocbfhaaGreatH30
import Derived.Sort.OwnSortedInts
set_option linter.all false
set_option maxRecDepth 100000
set_option maxHeartbeats 0
namespace Go.Proofs.YtjgfgdcaocbfhaaGreat
open Go.Value renaming int→B,slice→D
open Go.IntKind renaming i64→C
open Go.RowKit _root_.Go.Proofs.Tryz
variable {p:Nat}
def Gx(p:Nat)(w:World)(o:Option Pg)(e:Ending)(w':World):Prop :=
 ∃(xc xg xt xs xq:Int) (xch:List Int) (A:Option Addr) (n cc:Nat),e=.returned (.tuple #[.agg #[B C xc,B C xg,B C xt,D A n cc,B C xs,B C xq],.bool o.isSome]) ∧
  o.getD ⟨0,0,0,[],⟨0,0⟩⟩=⟨xc,xg,xt,xch,⟨xs,xq⟩⟩∧ao p w (D A n cc) xch∧Pg.wf ⟨xc,xg,xt,xch,⟨xs,xq⟩⟩∧ab w w'
theorem pW:Pg.wf ⟨0,0,0,[],⟨0,0⟩⟩:=⟨⟨by decide,by decide⟩,⟨by decide,by decide⟩,⟨by decide,by decide⟩,⟨⟨by decide,by decide⟩,⟨by decide,by decide⟩⟩,by decide⟩
theorem jD(v:Value)(t:en)(c g:Int)(w:World)(ht:bN p w v t) :
  Calls prog 42 #[v,B C c,B C g] w (Gx p w (bT t.pgs c g)):=by
 obtain⟨vS,vG,rfl,hS,hG⟩:=ht;obtain⟨AS,nS,cS,rfl,-⟩:=hS.open_;obtain⟨A,n,cc,rfl,hnc,hcc,hnn,HL⟩:=hG.open_;have HG:Bx (ke p w (D A n cc) t.pgs):=⟨hG⟩
 clear hS hG;obtain⟨w1,hw1⟩:=nm (((w.alloc (.cells #[D AS nS cS,D A n cc] 31)).alloc (.cells #[B C 0,B C 0,B C 0,D none 0 0,B C 0,B C 0] 77)):World);have HF:Bx (ae w w1 [(w.heap.size,#[D AS nS cS,D A n cc],31),(w.heap.size+1,#[B C 0,B C 0,B C 0,D none 0 0,B C 0,B C 0],77)]):=⟨by rw[hw1];exact ((ae.start w).push _ _ rfl).push _ _ (by simp)⟩
 go_enter func42,ntmps42
 go_upto_region 1 with (fail)
 rw[←hw1];clear hw1;have b1:=(HF.out.at_ 0 rfl).c 1 rfl;obtain⟨z0,z1,z2,z3,z4,z5⟩:=(HF.out.at_ 1 rfl).p6 rfl;have f0:=(HF.out.at_ 1 rfl).froz;have f1:=f0;have f2:=f0;have f3:=f0;have f4:=f0;have f5:=f0;go_wp2_with fail;go_loop [8] (fun s8=>∃k:Nat,s8=B C k∧k≤n∧Bx (∀(j:Nat) x,j<k→t.pgs[j]?=some x→(decide (x.cand=c)&&decide (x.page=g))=false)) (fun k=>n-(intOf k).toNat)
 case atStart=>exact⟨0,rfl,by omega,⟨fun j x hj=>by omega⟩⟩
 case round =>
  obtain⟨k,rfl,hk,HN⟩:=hrel;by_cases hkn:k<n
  ·obtain⟨b,off,_,_,rfl,-⟩:=HG.out.at_ hkn;obtain⟨cs,⟨xc,xg,xt,xch,⟨xs,xq⟩⟩,-,hc0,⟨ux,hcs,hix,hwf⟩,HX⟩:=HG.out.cell_ hkn;obtain⟨xA,xn,xcc,rfl,-⟩:=hix.open_;have HI:=zZ hix;have HWF:=zZ hwf;have x0:=HF.out.xt.cell (hc0 0 (B C xc) (by rw[hcs];rfl));have x1:=HF.out.xt.cell (hc0 1 (B C xg) (by rw[hcs];rfl));have x2:=HF.out.xt.cell (hc0 2 (B C xt) (by rw[hcs];rfl));have x3:=HF.out.xt.cell (hc0 3 (D xA xn xcc) (by rw[hcs];rfl));have x4:=HF.out.xt.cell (hc0 4 (B C xs) (by rw[hcs];rfl));have x5:=HF.out.xt.cell (hc0 5 (B C xq) (by rw[hcs];rfl));rw[yP]at x0;clear hc0 hcs hix hwf;by_cases h1:xc=c;case neg =>
    have h1b:(xc==c)=false:=beq_eq_false_iff_ne.2 h1;replace h1:=zZ h1;go_wp2_with fail;go_round
    case rel=>exact⟨k+1,by go_num,by omega,⟨fun j y hj hy=>by rcases zV j k with h|h;exact HN.out j y h hy;obtain rfl:j=k:=(by omega);rw[HX.out]at hy;injection hy with hy;subst hy;rw[decide_eq_false h1.out];rfl⟩⟩
    case measure=>simp[intOf];omega
   have h1b:(xc==c)=true:=by simp[h1]
   by_cases h2:xg=g;case neg =>
    have h2b:(xg==g)=false:=beq_eq_false_iff_ne.2 h2;replace h1:=zZ h1;replace h2:=zZ h2;go_wp2_with fail;go_round
    case rel=>exact⟨k+1,by go_num,by omega,⟨fun j y hj hy=>by rcases zV j k with h|h;exact HN.out j y h hy;obtain rfl:j=k:=(by omega);rw[HX.out]at hy;injection hy with hy;subst hy;rw[decide_eq_false h2.out,wF]⟩⟩
    case measure=>simp[intOf];omega
   have h2b:(xg==g)=true:=by simp[h2]
   have HFD:Bx (bT t.pgs c g=some ⟨xc,xg,xt,xch,⟨xs,xq⟩⟩):=⟨by unfold bT;exact iY HX.out (by simp[h1,h2]) HN.out⟩
   replace h1:=zZ h1;replace h2:=zZ h2;go_wp2_with fail;have h9:=HF.out.setAll 1 rfl [B C xc,B C xg,B C xt,D xA xn xcc,B C xs,B C xq] rfl;refine bodyPost_ret (v:=.tuple #[.agg #[B C xc,B C xg,B C xt,D xA xn xcc,B C xs,B C xq],.bool true]) (by simp[results,results42,go_sem,z0,z1,z2,z3,z4,z5]) rfl ⟨xc,xg,xt,xs,xq,xch,xA,xn,xcc,by rw[HFD.out];rfl,by rw[HFD.out];rfl,HI.out,HWF.out,h9.xt⟩
  ·obtain rfl:k=n:=by omega
   have HFD:Bx (bT t.pgs c g=none):=⟨by unfold bT;exact lT fun j y hy=>HN.out j y (by have:=(zY.1 hy).1;have:=HL.out;omega) hy⟩
   go_wp2_with fail;have h9:=HF.out.setAll 1 rfl [B C 0,B C 0,B C 0,D none 0 0,B C 0,B C 0] rfl;refine bodyPost_ret (v:=.tuple #[.agg #[B C 0,B C 0,B C 0,D none 0 0,B C 0,B C 0],.bool false]) (by simp[results,results42,go_sem,z0,z1,z2,z3,z4,z5]) rfl ⟨0,0,0,0,0,[],none,0,0,by rw[HFD.out];rfl,by rw[HFD.out];rfl,ao.nil _ _,pW,h9.xt⟩
def cJ(l:List aY)(c:Int)(k:Nat):List Int:=mF eW (((l.take k).filter (jx c)).map fun x=>x.lab.g)
section
variable {l:List aY} {c:Int} {k:Nat} {x:aY}
theorem uS(hx:l[k]?=some x)(h:jx c x=false):cJ l c (k+1)=cJ l c k:=by unfold cJ;rw[ag hx,yJ,wW (by rw[h];simp)];simp
theorem ww(hx:l[k]?=some x)(h:jx c x=true):cJ l c (k+1)=rY eW x.lab.g (cJ l c k):=by unfold cJ;rw[ag hx,yJ,wX h,List.filter_nil,yN,xI,List.map_nil,jV]
theorem vJ(h:l.length=k):cJ l c k=dc l c:=by unfold cJ dc;rw[aD (by omega)]
theorem tg{x:Int}{l:List Int}:kO x l=true↔x∈l:=by
 unfold kO;rw[xJ];constructor
 ·rintro⟨y,hy,h⟩;simp at h;subst h;exact hy
 ·intro h;exact⟨x,h,by simp⟩
end
theorem uq(v:Value)(t:en)(c:Int)(w:World)(hp:p<w.heap.size)(ht:bN p w v t)(hn:t.sts.length≤1000) :
  Calls prog 74 #[v,B C c] w fun e w'=>(∃(A:Option Addr) (n cc:Nat),e=.returned (D A n cc)∧w'.ownsRow w.heap.size 3 1 (D A n cc) (dc t.sts c).length ((dc t.sts c).map (Value.int .i64))∧(dc t.sts c).length=n)∧ab w w':=by
 obtain⟨i0,hi0,hz0,hz1,hz2⟩:=info_parts Tryz.infoI;obtain⟨vS,vG,rfl,hS,hG⟩:=ht;obtain⟨AG,nG,cG,rfl,-⟩:=hG.open_;obtain⟨AS,nS,cS,rfl,hnc,hcc,hnn,HL⟩:=hS.open_;have HS:Bx (eF p w (D AS nS cS) t.sts):=⟨hS⟩
 have hn3:nS≤1000:=by have:=HL.out;omega
 clear hS hG hn;obtain⟨w1,hw1⟩:=nm ((w.alloc (.cells #[D AS nS cS,D AG nG cG] 31)):World);have HF:Bx (ae w w1 [(w.heap.size,#[D AS nS cS,D AG nG cG],31)]):=⟨by rw[hw1];exact (ae.start w).push _ _ rfl⟩
 go_enter func74,ntmps74
 go_upto_region 1 with (fail)
 rw[←hw1];clear hw1;go_wp2_with fail;go_loopw [5,6] (fun s5 s6 wr=>∃k:Nat,s6=B C k∧k≤nS∧Bx (ae w wr [(w.heap.size,#[D AS nS cS,D AG nG cG],31)]∧wr.ownsRow w.heap.size 3 1 s5 (cJ t.sts c k).length ((cJ t.sts c k).map (Value.int .i64))∧(∀x∈cJ t.sts c k,aC x)∧(cJ t.sts c k).length≤k)) (fun _ k _=>nS-(intOf k).toNat)
 case atStart=>exact⟨0,rfl,by omega,⟨⟨HF.out,yW _ _ _ _,fun x hx=>by simp[cJ,mF]at hx,by simp[cJ,mF]⟩⟩⟩
 case round =>
  obtain⟨k,rfl,hk,HR⟩:=hrel;have HFr:Bx (ae w wr [(w.heap.size,#[D AS nS cS,D AG nG cG],31)]):=⟨HR.out.1⟩
  obtain⟨Ao,co,hu⟩:=pY HR.out.2.1;obtain⟨out,hout⟩:=nm (cJ t.sts c k);have HOUT:=zZ hout;have HO0:=HR.out.2;rw[←hout]at HO0 hu;obtain⟨no,hno⟩:=nm out.length;rw[←hno]at hu;subst hu;have HNO:=zZ hno.symm;have HO:Bx (wr.ownsRow w.heap.size 3 1 (D Ao no co) out.length (out.map (Value.int .i64))∧(∀x∈out,aC x)):=⟨⟨HO0.1,HO0.2.1⟩⟩
  have hnok:no≤k:=by have:=HO0.2.2;omega
  clear HR HF HO0 hout hno;have b0:=(HFr.out.at_ 0 rfl).c 0 rfl;by_cases hkn:k<nS
  ·obtain⟨b,off,_,_,rfl,-⟩:=HS.out.at_ hkn;obtain⟨cs,⟨⟨xs,xq⟩,xt,⟨xa,xb,xc,xd⟩⟩,-,hc0,⟨hcs,hxw⟩,HX⟩:=(HS.out.ext (cQ.stab p) HFr.out.xt).cell_ hkn;have hxg:aC xc:=hxw.2.2.2.2.1;have x0:=hc0 0 (B C xs) (by rw[hcs];rfl);have x1:=hc0 1 (B C xq) (by rw[hcs];rfl);have x2:=hc0 2 (B C xt) (by rw[hcs];rfl);have x3:=hc0 3 (B C xa) (by rw[hcs];rfl);have x4:=hc0 4 (B C xb) (by rw[hcs];rfl);have x5:=hc0 5 (B C xc) (by rw[hcs];rfl);have x6:=hc0 6 (B C xd) (by rw[hcs];rfl);rw[yP]at x0;clear hc0 hcs hxw;go_upto_region 6 with (fail)
   have HF2:Bx (ae w (wr.alloc (.cells #[B C xs,B C xq,B C xt,B C xa,B C xb,B C xc,B C xd] 75)) [(w.heap.size,#[D (some ⟨b,off,none⟩) nS cS,D AG nG cG],31),(wr.heap.size,#[B C xs,B C xq,B C xt,B C xa,B C xb,B C xc,B C xd],75)]):=⟨HFr.out.push _ _ rfl⟩
   have HO2:Bx ((wr.alloc (.cells #[B C xs,B C xq,B C xt,B C xa,B C xb,B C xc,B C xd] 75)).ownsRow w.heap.size 3 1 (D Ao no co) out.length (out.map (Value.int .i64))∧(∀x∈out,aC x)):=⟨⟨ac HO.out.1 ((zE _).alloc _),HO.out.2⟩⟩
   obtain⟨w2,hw2⟩:=nm ((wr.alloc (.cells #[B C xs,B C xq,B C xt,B C xa,B C xb,B C xc,B C xd] 75)):World);rw[←hw2]at HF2 HO2;rw[←hw2];clear hw2 x0 x1 x2 x3 x4 x5 x6 b0 HFr HO;obtain⟨gx,hgx⟩:=nm wr.heap.size;rw[←hgx]at HF2;rw[←hgx];clear hgx;have y2:=(HF2.out.at_ 1 rfl).c 2 rfl;have y4:=(HF2.out.at_ 1 rfl).c 4 rfl;have y5:=(HF2.out.at_ 1 rfl).c 5 rfl;have HI2:Bx (ao p w2 (D Ao no co) out):=⟨by have h:=ao.of_own HO2.out.1 hp HO2.out.2 (by have:=HNO.out;omega);exact h⟩
   have hnco:no≤co∧co≤9223372036854775807:=by obtain⟨A9,c9,e9,h9,h8,-⟩:=HI2.out;injection e9 with _ e8 e9;have:=HNO.out;omega
   obtain⟨hnco1,hnco2⟩:=hnco;by_cases h1:xt=3∧xb=c;case neg =>
    have HEND:Bx (ae w w2 [(w.heap.size,#[D (some ⟨b,off,none⟩) nS cS,D AG nG cG],31)]∧w2.ownsRow w.heap.size 3 1 (D Ao no co) (cJ t.sts c (k+1)).length ((cJ t.sts c (k+1)).map (Value.int .i64))∧(∀x∈cJ t.sts c (k+1),aC x)∧(cJ t.sts c (k+1)).length≤k+1):=⟨by rw[uS HX.out (by unfold jx;simp only[Bool.and_eq_false_iff,decide_eq_false_iff_not];omega),←HOUT.out];exact⟨HF2.out.take 1,HO2.out.1,HO2.out.2,by have:=HNO.out;omega⟩⟩
    by_cases h2:xt=3
    ·have h3:(xb != c)=true:=by simp;omega
     subst h2;go_wp2_with fail;go_roundw
     case rel=>exact⟨k+1,by go_num,by omega,HEND⟩
     case measure=>simp[intOf];omega
    ·have h3:(xt != 3)=true:=by simp;omega
     go_wp2_with fail;go_roundw
     case rel=>exact⟨k+1,by go_num,by omega,HEND⟩
     case measure=>simp[intOf];omega
   obtain⟨rfl,rfl⟩:=h1;have HPUT:=zZ (ww (c:=xb) HX.out (by unfold jx;simp));have hxb:(xb != xb)=false:=by simp
   cases hh:kO xc out with
   |true =>
    have HEND:Bx (ae w w2 [(w.heap.size,#[D (some ⟨b,off,none⟩) nS cS,D AG nG cG],31)]∧w2.ownsRow w.heap.size 3 1 (D Ao no co) (cJ t.sts xb (k+1)).length ((cJ t.sts xb (k+1)).map (Value.int .i64))∧(∀x∈cJ t.sts xb (k+1),aC x)∧(cJ t.sts xb (k+1)).length≤k+1):=⟨by rw[HPUT.out,←HOUT.out];unfold rY;rw[if_pos (tg.1 hh)];exact⟨HF2.out.take 1,HO2.out.1,HO2.out.2,by have:=HNO.out;omega⟩⟩
    go_wp2_with (go_at_call 104;refine (nk _ out xc _ HI2.out).mono ?_;rintro e w3 ⟨rfl,rfl⟩;rw[hh]);go_roundw
    case rel=>exact⟨k+1,by go_num,by omega,HEND⟩
    case measure=>simp[intOf];omega
   |false =>
    have HINS:=zZ (show cJ t.sts xb (k+1)=gF eW xc out by rw[HPUT.out,←HOUT.out];unfold rY;rw[if_neg (fun h=>by rw[tg.2 h]at hh;cases hh)]);have HNI:=zZ hh;go_upto_region 7 with (go_at_call 104;refine (nk _ out xc _ HI2.out).mono ?_;rintro e w3 ⟨rfl,rfl⟩;rw[hh])
    clear hh y2 y4;go_wp2_with fail;go_loopw [8] (fun s8 wx=>∃m:Nat,s8=B C m∧m≤no∧Bx (ab w2 wx∧∀(j:Nat) y,j<m→out[j]?=some y→eW y xc=true)) (fun m _=>no-(intOf m).toNat)
    case atStart=>exact⟨0,rfl,by omega,⟨⟨zE _,fun j y hj=>by omega⟩⟩⟩
    case round =>
     obtain⟨m,rfl,hm,HM⟩:=hrel;have z5:=HM.out.1.cell y5;have HIx:=bx (HI2.out.ext HM.out.1);have HE:Bx (ab w2 wr):=⟨HM.out.1⟩
     have HA:Bx (∀(j:Nat) y,j<m→out[j]?=some y→eW y xc=true):=⟨HM.out.2⟩
     clear HM;by_cases hmn:m<no
     ·obtain⟨b9,o9,y,rfl,hcy,HY,hy1,hy2⟩:=HIx.out.at_ hmn;go_upto_region 8 with (fail)
      refine zQ 99 fun wd kS=>?_;refine zS 14 [(0,39),(1,40),(2,41),(3,42),(4,43),(5,44),(6,45),(7,46),(8,47),(9,48),(10,49),(11,50),(12,51),(13,52)] kS ?_;iterate 14 (apply zT;exact⟨rfl,rfl⟩;(·intro wk hk;have:=hk.cell hcy;have:=hk.cell z5;go_simp;try with_reducible rfl);simp only[kA];exact rfl)
      refine zN (zD ?_);have HEd:Bx (ab w2 wd):=⟨HE.out.trans kS⟩
      have hgx5:wd.cell? ⟨gx,5,none⟩=some (B C xc):=kS.cell z5;clear kS hcy z5;by_cases hlt:y<xc
      ·have HL1:=zZ (show eW y xc=true by unfold eW;exact decide_eq_true hlt);go_wp2_with fail;go_roundw
       case rel=>exact⟨m+1,by go_num,by omega,⟨⟨HEd.out,fun j z hj hz=>by rcases zV j m with h|h;exact HA.out j z h hz;obtain rfl:j=m:=(by omega);rw[HY.out]at hz;injection hz with hz;subst hz;exact HL1.out⟩⟩⟩
       case measure=>simp[intOf];omega
      ·have HB:Bx (∀z,out[m]?=some z→eW z xc=false):=⟨fun z hz=>by rw[HY.out]at hz;injection hz with hz;subst hz;unfold eW;exact decide_eq_false hlt⟩
       obtain⟨Az,hAz⟩:=nm (some ⟨b9,o9,none⟩:Option Addr);rw[←hAz]at HIx HI2 HO2;rw[←hAz];clear hAz;have HIr:=zZ ((HI2.out.ext HEd.out).take hm);have HDr:=zZ (show ao p wd (D (Az.map (·.add m)) (no-m) (co-m)) (out.drop m) by have h:=(HI2.out.ext HEd.out).drop hm;rwa [if_neg (by omega)]at h);have HFd:Bx (ae w wd [(w.heap.size,#[D (some ⟨b,off,none⟩) nS cS,D AG nG cG],31)]):=⟨(HF2.out.take 1).ext HEd.out⟩
       have HI9:=zZ (jK HA.out HB.out (by have:=HNO.out;omega));have HNM:=zZ (show (gF eW xc out).length=no+1 by rw[pK,HNO.out]);go_wp2_with (first
        |(at_builtin;refine dj _ rfl (.tmp 55) (.tmp 58) 22 rfl wd.heap.size 3 i0 _ 8 underlying22 hi0 hz0 hz1 hz2 rfl (D none 0 0) 0 [] rfl (yW _ _ _ _) p Az m co (out.take m) rfl HIr.out (by omega) (by omega) (zX _) ?_;intro v4 w4 hown4 hg4;have HE4:=zZ (ab.grown (zE wd) hg4 (by simp[Value.ownBlock]));have HO4:=zZ hown4;replace hgx5:=HE4.out.cell hgx5;clear hown4 hg4)
        |(at_builtin;refine al _ rfl (.tmp 60) (.tmp 64) 22 rfl wd.heap.size 3 i0 _ 8 underlying22 hi0 hz0 hz1 hz2 rfl v4 _ _ rfl (HO4.out.alloc _) _ _ rfl (by simp;rfl) rfl (by omega) (by omega) (by have:=HE4.out.size;simp;omega) ?_;intro v5 w5 hown5 hg5;have HE5:=zZ (ab.grown (HE4.out.alloc _) hg5 (ar HO4.out));have HO5:=zZ hown5;clear hown5 hg5)
        |(at_builtin;refine dj _ rfl (.tmp 66) (.tmp 69) 22 rfl wd.heap.size 3 i0 _ 8 underlying22 hi0 hz0 hz1 hz2 rfl v5 _ _ rfl HO5.out p _ (no-m) (co-m) (out.drop m) rfl (HDr.out.ext HE5.out) (by omega) (by omega) (HE5.out.size) ?_;intro v6 w6 hown6 hg6;have HE6:=zZ (ab.grown HE5.out hg6 (ar HO5.out));have HO6:=zZ hown6;clear hown6 hg6))
       go_roundw
       case rel =>
        refine⟨k+1,by go_num,by omega,⟨⟨HFd.out.ext HE6.out,?_,fun x hx=>?_,?_⟩⟩⟩
        ·rw[HINS.out,HI9.out];have h5:=bo HO6.out (base':=w.heap.size) (HFd.out.xt.size);have hno:=HNO.out;have e:0+m+1+(no-m)=(out.take m++[xc]++out.drop m).length:=by simp;omega
         rw[e]at h5;simpa using h5
        ·rw[HINS.out]at hx;rcases oE hx with rfl|hx
         ·exact hxg
         ·exact HO2.out.2 x hx
        ·rw[HINS.out,HNM.out];omega
       case measure=>simp[intOf];omega
     ·obtain rfl:m=no:=by omega
      have HB:Bx (∀z,out[m]?=some z→eW z xc=false):=⟨fun z hz=>by have:=(zY.1 hz).1;have:=HNO.out;omega⟩
      go_upto_region 8 with (fail)
      refine zQ 99 fun wd kS=>?_;refine zS 14 [(0,39),(1,40),(2,41),(3,42),(4,43),(5,44),(6,45),(7,46),(8,47),(9,48),(10,49),(11,50),(12,51),(13,52)] kS ?_;iterate 5 (apply zT;exact⟨rfl,rfl⟩;(·intro _ _;go_simp;try with_reducible rfl);simp only[kA];exact rfl)
      iterate 8 (apply zK;exact⟨rfl,rfl⟩;simp only[kA];exact rfl)
      (apply zT;exact⟨rfl,rfl⟩;(·intro _ _;go_simp;try with_reducible rfl);simp only[kA];exact rfl);refine zN (zD ?_);have HEd:Bx (ab w2 wd):=⟨HE.out.trans kS⟩
      have hgx5:wd.cell? ⟨gx,5,none⟩=some (B C xc):=kS.cell z5;clear kS z5;have HIr:=zZ ((HI2.out.ext HEd.out).take hm);have HDr:=zZ (show ao p wd (D (if co=m then Ao else Ao.map (·.add m)) 0 (co-m)) (out.drop m) by have h:=(HI2.out.ext HEd.out).drop hm;rw[Nat.sub_self]at h;exact h);have HFd:Bx (ae w wd [(w.heap.size,#[D (some ⟨b,off,none⟩) nS cS,D AG nG cG],31)]):=⟨(HF2.out.take 1).ext HEd.out⟩
      have HI9:=zZ (jK HA.out HB.out (by have:=HNO.out;omega));have HNM:=zZ (show (gF eW xc out).length=m+1 by rw[pK,HNO.out]);go_wp2_with (first
       |(at_builtin;refine dj _ rfl (.tmp 55) (.tmp 58) 22 rfl wd.heap.size 3 i0 _ 8 underlying22 hi0 hz0 hz1 hz2 rfl (D none 0 0) 0 [] rfl (yW _ _ _ _) p Ao m co (out.take m) rfl HIr.out (by omega) (by omega) (zX _) ?_;intro v4 w4 hown4 hg4;have HE4:=zZ (ab.grown (zE wd) hg4 (by simp[Value.ownBlock]));have HO4:=zZ hown4;replace hgx5:=HE4.out.cell hgx5;clear hown4 hg4)
       |(at_builtin;refine al _ rfl (.tmp 60) (.tmp 64) 22 rfl wd.heap.size 3 i0 _ 8 underlying22 hi0 hz0 hz1 hz2 rfl v4 _ _ rfl (HO4.out.alloc _) _ _ rfl (by simp;rfl) rfl (by omega) (by omega) (by have:=HE4.out.size;simp;omega) ?_;intro v5 w5 hown5 hg5;have HE5:=zZ (ab.grown (HE4.out.alloc _) hg5 (ar HO4.out));have HO5:=zZ hown5;clear hown5 hg5)
       |(at_builtin;refine dj _ rfl (.tmp 66) (.tmp 69) 22 rfl wd.heap.size 3 i0 _ 8 underlying22 hi0 hz0 hz1 hz2 rfl v5 _ _ rfl HO5.out p _ 0 (co-m) (out.drop m) rfl (HDr.out.ext HE5.out) (by omega) (by omega) (HE5.out.size) ?_;intro v6 w6 hown6 hg6;have HE6:=zZ (ab.grown HE5.out hg6 (ar HO5.out));have HO6:=zZ hown6;clear hown6 hg6))
      go_roundw
      case rel =>
       refine⟨k+1,by go_num,by omega,⟨⟨HFd.out.ext HE6.out,?_,fun x hx=>?_,?_⟩⟩⟩
       ·rw[HINS.out,HI9.out];have h5:=bo HO6.out (base':=w.heap.size) (HFd.out.xt.size);have hno:=HNO.out;have e:0+m+1+0=(out.take m++[xc]++out.drop m).length:=by simp;omega
        rw[e]at h5;simpa using h5
       ·rw[HINS.out]at hx;rcases oE hx with rfl|hx
        ·exact hxg
        ·exact HO2.out.2 x hx
       ·rw[HINS.out,HNM.out];omega
      case measure=>simp[intOf];omega
  ·obtain rfl:k=nS:=by omega
   have HEND:Bx (wr.ownsRow w.heap.size 3 1 (D Ao no co) (dc t.sts c).length ((dc t.sts c).map (Value.int .i64))∧(dc t.sts c).length=no):=⟨by rw[←vJ (k:=k) HL.out,←HOUT.out];exact⟨HO.out.1,HNO.out⟩⟩
   go_wp2_with fail;go_ret
   exact⟨⟨Ao,no,co,rfl,HEND.out.1,HEND.out.2⟩,HFr.out.xt⟩
theorem dU(v:Value)(s:aZ)(c:Int)(w:World)(hs:aN p w v s)(hok:cD s) :
  Calls prog 46 #[v,B C c] w fun e w'=>(∃a b d:Int,e=.returned (.tuple #[.agg #[B C a,B C b,B C d],.bool (aJ s.xp c).isSome])∧(aJ s.xp c).getD ⟨0,0,0⟩=⟨a,b,d⟩)∧ab w w':=by
 obtain⟨vP,vB,vX,rfl,hP,hB,hX,hnum⟩:=hs;obtain⟨AP,nP,cP,rfl,-⟩:=hP.open_;obtain⟨AB,nB,cB,rfl,-⟩:=hB.open_;obtain⟨A,n,cc,rfl,hnc,hcc,hnn,HL⟩:=hX.open_;have HX:Bx (d7 p w (D A n cc) s.xp):=⟨hX⟩
 have HOK:Bx (cD s):=⟨hok⟩
 have hx60:s.xp.length≤60:=hok.len.2.2;clear hP hB hX hnum hok;obtain⟨w1,hw1⟩:=nm (((w.alloc (.cells #[B C s.num,D AP nP cP,D AB nB cB,D A n cc] 27)).alloc (.cells #[B C 0,B C 0,B C 0] 83)):World);have HF:Bx (ae w w1 [(w.heap.size,#[B C s.num,D AP nP cP,D AB nB cB,D A n cc],27),(w.heap.size+1,#[B C 0,B C 0,B C 0],83)]):=⟨by rw[hw1];exact ((ae.start w).push _ _ rfl).push _ _ (by simp)⟩
 go_enter func46,ntmps46
 go_upto_region 1 with (fail)
 rw[←hw1];clear hw1;have b3:=(HF.out.at_ 0 rfl).c 3 rfl;go_wp2_with fail;refine (FA _ s.xp c _ (HX.out.ext (iK.stab p) HF.out.xt) (sg HOK.out c) (by omega)).mono ?_;rintro e w2 ⟨⟨i,b,rfl,hfd⟩,hx2⟩;have HFD:=zZ (BA HOK.out hfd);have HF2:=bx (HF.out.ext hx2);clear HF hx2 b3 hfd;have b3:=(HF2.out.at_ 0 rfl).c 3 rfl;obtain⟨z0,z1,z2⟩:=(HF2.out.at_ 1 rfl).p3 rfl;have f0:=(HF2.out.at_ 1 rfl).froz;have f1:=f0;have f2:=f0;cases b with
 |false =>
  have HN:=zZ (HFD.out.2 rfl);go_wp2_with fail;have h9:=HF2.out.setAll 1 rfl [B C 0,B C 0,B C 0] rfl;refine bodyPost_ret (v:=.tuple #[.agg #[B C 0,B C 0,B C 0],.bool false]) (by simp[results,results46,go_sem,z0,z1,z2]) rfl ⟨⟨0,0,0,by rw[HN.out];rfl,by rw[HN.out];rfl⟩,h9.xt⟩
 |true =>
  obtain⟨⟨xc,xe,xv⟩,hxi,hfx⟩:=HFD.out.1 rfl;have HN:=zZ hfx;have hiX:i<n:=by have:=(zY.1 hxi).1;have:=HL.out;omega
  obtain⟨bX,oX,_,_,rfl,-⟩:=HX.out.at_ hiX;obtain⟨yc,ye,yv,HY,x0,x1,x2⟩:=d7.read HX.out HF2.out.xt.xt hiX;obtain⟨rfl,rfl,rfl⟩:xc=yc∧xe=ye∧xv=yv:=by have:=HY.out;rw[hxi]at this;injection this with this;injection this with a b c;exact⟨a,b,c⟩
  clear hfx hxi HY HFD;go_wp2_with fail;have h9:=HF2.out.setAll 1 rfl [B C xc,B C xe,B C xv] rfl;refine bodyPost_ret (v:=.tuple #[.agg #[B C xc,B C xe,B C xv],.bool true]) (by simp[results,results46,go_sem,z0,z1,z2]) rfl ⟨⟨xc,xe,xv,by rw[HN.out];rfl,by rw[HN.out];rfl⟩,h9.xt⟩
theorem AK{l:List Pg}(h:fB cM l)(c g:Int):j8 l (fun y=>dT y.cand y.page c g):=by
 refine sB h (fun x y hxy hc=>?_) (fun x y hxy hc=>?_)<;>unfold cM at hxy<;>simp only[decide_eq_true_eq]at hxy <;>
  rcases bY y.cand y.page c g with ⟨a,e⟩|⟨a,e⟩|⟨a,e⟩<;>rcases bY x.cand x.page c g with ⟨b,f⟩|⟨b,f⟩|⟨b,f⟩<;>(try simp only at hc⊢)<;>omega
theorem FY{l:List Pg}(h:fB cM l){c g:Int}{i:Nat}{b:Bool}(hf:jz l (fun y=>dT y.cand y.page c g) i b):(b=true→∃x,l[i]?=some x∧bT l c g=some x)∧(b=false→bT l c g=none):=by refine hf.find (AK h c g) fun x _=>?_;simp only[yY,decide_eq_true_eq];rcases bY x.cand x.page c g with ⟨a,e⟩|⟨a,e⟩|⟨a,e⟩<;>omega
theorem rM{l:List aY}(h:fB aW l)(a b:Int):j8 l (fun y=>dT y.scan.s y.scan.q a b):=by
 refine sB h (fun x y hxy hc=>?_) (fun x y hxy hc=>?_)<;>unfold aW gY at hxy<;>simp only[decide_eq_true_eq]at hxy <;>
  rcases bY y.scan.s y.scan.q a b with ⟨k,e⟩|⟨k,e⟩|⟨k,e⟩<;>rcases bY x.scan.s x.scan.q a b with ⟨k',f⟩|⟨k',f⟩|⟨k',f⟩<;>(try simp only at hc⊢)<;>omega
theorem AN{l:List aY}(h:fB aW l){a c:Int}{i:Nat}{b:Bool}(hf:jz l (fun y=>dT y.scan.s y.scan.q a c) i b):(b=true→∃x,l[i]?=some x∧ia l ⟨a,c⟩=some x)∧(b=false→ia l ⟨a,c⟩=none):=by refine hf.find (rM h a c) fun x _=>?_;simp only[decide_eq_true_eq];rw[jd.eq_iff];rcases bY x.scan.s x.scan.q a c with ⟨k,e⟩|⟨k,e⟩|⟨k,e⟩<;>(try simp only)<;>omega
theorem eH(v:Value)(t:en)(c g:Int)(w:World)(ht:bN p w v t)(ha:fB cM t.pgs)(hn:t.pgs.length≤1000000) :
  Calls prog 40 #[v,B C c,B C g] w (Gx p w (bT t.pgs c g)):=by
 obtain⟨vS,vG,rfl,hS,hG⟩:=ht;obtain⟨AS,nS,cS,rfl,-⟩:=hS.open_;obtain⟨A,n,cc,rfl,hnc,hcc,hnn,HL⟩:=hG.open_;have HG:Bx (ke p w (D A n cc) t.pgs):=⟨hG⟩
 have HA:Bx (fB cM t.pgs):=⟨ha⟩
 clear hS hG ha;obtain⟨w1,hw1⟩:=nm (((w.alloc (.cells #[D AS nS cS,D A n cc] 31)).alloc (.cells #[B C 0,B C 0,B C 0,D none 0 0,B C 0,B C 0] 77)):World);have HF:Bx (ae w w1 [(w.heap.size,#[D AS nS cS,D A n cc],31),(w.heap.size+1,#[B C 0,B C 0,B C 0,D none 0 0,B C 0,B C 0],77)]):=⟨by rw[hw1];exact ((ae.start w).push _ _ rfl).push _ _ (by simp)⟩
 go_enter func40,ntmps40
 go_upto_region 1 with (fail)
 rw[←hw1];clear hw1;have b1:=(HF.out.at_ 0 rfl).c 1 rfl;go_wp2_with fail;refine (FL _ t.pgs c g _ (HG.out.ext (j3.stab p) HF.out.xt) (AK HA.out c g) (by omega)).mono ?_;rintro e w2 ⟨⟨i,b,rfl,hfd⟩,hx2⟩;have HFD:=zZ (FY HA.out hfd);have HF2:=bx (HF.out.ext hx2);clear HF hx2 b1 hfd;have b1:=(HF2.out.at_ 0 rfl).c 1 rfl;obtain⟨z0,z1,z2,z3,z4,z5⟩:=(HF2.out.at_ 1 rfl).p6 rfl;have f0:=(HF2.out.at_ 1 rfl).froz;have f1:=f0;have f2:=f0;have f3:=f0;have f4:=f0;have f5:=f0;cases b with
 |false =>
  have HN:=zZ (HFD.out.2 rfl);go_wp2_with fail;have h9:=HF2.out.setAll 1 rfl [B C 0,B C 0,B C 0,D none 0 0,B C 0,B C 0] rfl;refine bodyPost_ret (v:=.tuple #[.agg #[B C 0,B C 0,B C 0,D none 0 0,B C 0,B C 0],.bool false]) (by simp[results,results40,go_sem,z0,z1,z2,z3,z4,z5]) rfl ⟨0,0,0,0,0,[],none,0,0,by rw[HN.out];rfl,by rw[HN.out];rfl,ao.nil _ _,pW,h9.xt⟩
 |true =>
  obtain⟨y,hxi,hfx⟩:=HFD.out.1 rfl;have hiX:i<n:=by have:=(zY.1 hxi).1;have:=HL.out;omega
  obtain⟨b9,off,_,_,rfl,-⟩:=HG.out.at_ hiX;obtain⟨cs,⟨xc,xg,xt,xch,⟨xs,xq⟩⟩,-,hc0,⟨ux,hcs,hix,hwf⟩,HX⟩:=HG.out.cell_ hiX;obtain rfl:y=⟨xc,xg,xt,xch,⟨xs,xq⟩⟩:=by have:=HX.out;rw[hxi]at this;injection this
  have HN:=zZ hfx;obtain⟨xA,xn,xcc,rfl,-⟩:=hix.open_;have HI:=zZ hix;have HWF:=zZ hwf;have x0:=HF2.out.xt.cell (hc0 0 (B C xc) (by rw[hcs];rfl));have x1:=HF2.out.xt.cell (hc0 1 (B C xg) (by rw[hcs];rfl));have x2:=HF2.out.xt.cell (hc0 2 (B C xt) (by rw[hcs];rfl));have x3:=HF2.out.xt.cell (hc0 3 (D xA xn xcc) (by rw[hcs];rfl));have x4:=HF2.out.xt.cell (hc0 4 (B C xs) (by rw[hcs];rfl));have x5:=HF2.out.xt.cell (hc0 5 (B C xq) (by rw[hcs];rfl));rw[yP]at x0;clear hc0 hcs hix hwf hfx hxi HX HFD;go_wp2_with fail;have h9:=HF2.out.setAll 1 rfl [B C xc,B C xg,B C xt,D xA xn xcc,B C xs,B C xq] rfl;refine bodyPost_ret (v:=.tuple #[.agg #[B C xc,B C xg,B C xt,D xA xn xcc,B C xs,B C xq],.bool true]) (by simp[results,results40,go_sem,z0,z1,z2,z3,z4,z5]) rfl ⟨xc,xg,xt,xs,xq,xch,xA,xn,xcc,by rw[HN.out];rfl,by rw[HN.out];rfl,HI.out,HWF.out,h9.xt⟩
section
variable {l:List aY} {g:List Pg} {s:aZ} {t:en} {x y:aY} {k:Nat}
theorem lV(hx:l[0]?=some x):qj l 0=oT x:=by unfold qj;rw[hx];simp
theorem kR(hx:l[k+1]?=some x)(hy:l[k]?=some y):qj l (k+1)=(oT x&&aW y x):=by unfold qj qp;simp only[hx,hy]
theorem tj{sts:List aY}{q:Pg}(hx:g[0]?=some q):mQ s sts g 0=fH s sts q:=by unfold mQ;rw[hx];simp
theorem tu{sts:List aY}{q r:Pg}(hx:g[k+1]?=some q)(hy:g[k]?=some r):mQ s sts g (k+1)=(cM r q&&fH s sts q):=by unfold mQ qp;simp only[hx,hy]
theorem i6(hx:l[k]?=some x)(h:x.state=1):dr l (k+1)=dr l k+1:=by unfold dr;rw[ag hx,yJ,wX (by unfold pV;simp[h])];simp
theorem jU(hx:l[k]?=some x)(h:x.state≠1):dr l (k+1)=dr l k:=by unfold dr;rw[ag hx,yJ,wW (by unfold pV;simp[h])];simp
theorem oN(h:l.length=k):dr l k=fJ l:=by unfold dr fJ;rw[aD (by omega)]
theorem uI(h:∀j,j<l.length→qj l j=true):fM l=true:=eC h
theorem jI(hk:k<l.length)(h:qj l k=false):fM l=false:=dA hk h
end
theorem eF.read{b off n c k:Nat}{w wx:World}{l:List aY}(h:eF p w (D (some ⟨b,off,none⟩) n c) l)(hx:ab w wx)(hk:k<n) :
  ∃xs xq xt xa xb xc xd:Int,Hid (l[k]?=some ⟨⟨xs,xq⟩,xt,⟨xa,xb,xc,xd⟩⟩)∧aY.wf ⟨⟨xs,xq⟩,xt,⟨xa,xb,xc,xd⟩⟩∧wx.cell? ⟨b,off+k*7,none⟩=some (B C xs)∧wx.cell? ⟨b,off+k*7+1,none⟩=some (B C xq)∧wx.cell? ⟨b,off+k*7+2,none⟩=some (B C xt)∧wx.cell? ⟨b,off+k*7+3,none⟩=some (B C xa)∧wx.cell? ⟨b,off+k*7+4,none⟩=some (B C xb)∧wx.cell? ⟨b,off+k*7+5,none⟩=some (B C xc)∧wx.cell? ⟨b,off+k*7+6,none⟩=some (B C xd):=by
 obtain⟨cs,⟨⟨xs,xq⟩,xt,⟨xa,xb,xc,xd⟩⟩,-,hc0,⟨hcs,hw⟩,HX⟩:=(h.ext (cQ.stab p) hx).cell_ hk;subst hcs;exact⟨xs,xq,xt,xa,xb,xc,xd,HX,hw,hc0 0 _ rfl,hc0 1 _ rfl,hc0 2 _ rfl,hc0 3 _ rfl,hc0 4 _ rfl,hc0 5 _ rfl,hc0 6 _ rfl⟩
theorem ke.read{b off n c k:Nat}{w wx:World}{l:List Pg}(h:ke p w (D (some ⟨b,off,none⟩) n c) l)(hx:ab w wx)(hk:k<n) :
  ∃(xc xg xt xs xq:Int) (xch:List Int) (A:Option Addr) (m cc:Nat),Hid (l[k]?=some ⟨xc,xg,xt,xch,⟨xs,xq⟩⟩)∧Pg.wf ⟨xc,xg,xt,xch,⟨xs,xq⟩⟩∧ao p wx (D A m cc) xch∧wx.cell? ⟨b,off+k*6,none⟩=some (B C xc)∧wx.cell? ⟨b,off+k*6+1,none⟩=some (B C xg)∧wx.cell? ⟨b,off+k*6+2,none⟩=some (B C xt)∧wx.cell? ⟨b,off+k*6+3,none⟩=some (D A m cc)∧wx.cell? ⟨b,off+k*6+4,none⟩=some (B C xs)∧wx.cell? ⟨b,off+k*6+5,none⟩=some (B C xq):=by
 obtain⟨cs,⟨xc,xg,xt,xch,⟨xs,xq⟩⟩,-,hc0,⟨u,hcs,hI,hw⟩,HX⟩:=(h.ext (j3.stab p) hx).cell_ hk;obtain⟨A,m,cc,rfl,-⟩:=hI.open_;subst hcs;exact⟨xc,xg,xt,xs,xq,xch,A,m,cc,HX,hw,hI,hc0 0 _ rfl,hc0 1 _ rfl,hc0 2 _ rfl,hc0 3 _ rfl,hc0 4 _ rfl,hc0 5 _ rfl⟩
theorem m0(v:Value)(l:List aY)(w:World)(h:eF p w v l)(hn:l.length≤1000000) :
  Calls prog 64 #[v] w fun e w'=>(∃u:Nat,e=.returned (.tuple #[B C (u:Int),.bool (fM l)])∧(fM l=true→u=fJ l))∧ab w w':=by
 obtain⟨A,n,c,rfl,hnc,hcc,hnn,HL⟩:=h.open_;have HV:Bx (eF p w (D A n c) l):=⟨h⟩
 have hn3:n≤1000000:=by have:=HL.out;omega
 clear h hn;go_enter func64,ntmps64
 go_wp2_with fail;go_loopw [2,8] (fun s2 s8 wr=>∃k u:Nat,s2=B C u∧s8=B C k∧k≤n∧u≤k∧Bx (ab w wr∧(∀j,j<k→qj l j=true)∧u=dr l k)) (fun _ k _=>n-(intOf k).toNat)
 case atStart=>exact⟨0,0,rfl,rfl,by omega,by omega,⟨⟨zE _,fun j hj=>by omega,rfl⟩⟩⟩
 case round =>
  obtain⟨k,u,rfl,rfl,hk,huk,HR⟩:=hrel;by_cases hkn:k<n
  ·obtain⟨b,off,_,_,rfl,-⟩:=HV.out.at_ hkn;obtain⟨xs,xq,xt,xa,xb,xc,xd,HX,hwf,x0,x1,x2,x3,x4,x5,x6⟩:=eF.read HV.out HR.out.1 hkn;have hx2:ab wr (wr.alloc (.cells #[B C xs,B C xq,B C xt,B C xa,B C xb,B C xc,B C xd] 75)):=(zE _).alloc _;have hkl:k<l.length:=by have:=HL.out;omega
   have HKL:=zZ hkl;clear hwf hkl;by_cases hok:1≤xt∧xt≤6;case neg =>
    have HE:=zZ (show fM l=false by
     refine jI HKL.out ?_;have ho:oT (⟨⟨xs,xq⟩,xt,⟨xa,xb,xc,xd⟩⟩:aY)=false:=decide_eq_false hok;cases k with
     |zero=>rw[lV HX.out];exact ho
     |succ m=>rw[kR HX.out (zW (by have:=HKL.out;omega)),ho];rfl)
    have HW:=zZ (HR.out.1.trans hx2);go_wp2_with fail;all_goals first
     |(exfalso;omega)
     |(refine bodyPost_ret (v:=.tuple #[B C 0,.bool false]) (by simp[results,results64,go_sem]) rfl ⟨⟨0,by rw[HE.out];rfl,fun h=>by rw[HE.out]at h;cases h⟩,HW.out⟩)
   obtain⟨hok1,hok2⟩:=hok;have hd1:decide (xt<1)=false:=decide_eq_false (by omega);have hd2:decide (6<xt)=false:=decide_eq_false (by omega);have HOK:=zZ (show oT (⟨⟨xs,xq⟩,xt,⟨xa,xb,xc,xd⟩⟩:aY)=true from decide_eq_true ⟨hok1,hok2⟩);go_upto_region 6 with (fail)
   obtain⟨w2,hw2⟩:=nm ((wr.alloc (.cells #[B C xs,B C xq,B C xt,B C xa,B C xb,B C xc,B C xd] 75)):World);have HF2:Bx (ae w w2 [(wr.heap.size,#[B C xs,B C xq,B C xt,B C xa,B C xb,B C xc,B C xd],75)]):=⟨by rw[hw2];exact (show ae w wr [] from ⟨HR.out.1,dW.nil _ _⟩).new _ _⟩
   rw[←hw2]at hx2;rw[←hw2];clear hw2;obtain⟨gx,hgx⟩:=nm wr.heap.size;rw[←hgx]at HF2;rw[←hgx];clear hgx x0 x1 x2 x3 x4 x5 x6;obtain⟨y0,y1⟩:=(HF2.out.at_ 0 rfl).p2 rfl;have HA:Bx ((∀j,j<k→qj l j=true)∧u=dr l k):=⟨HR.out.2⟩
   have HE2:Bx (ab w wr):=⟨HR.out.1⟩
   clear HR;rcases xW k with hk0|hk0
   ·subst hk0;refine zQ 99 fun wd kS=>?_;refine zS 14 [(0,21),(1,22),(2,23),(3,24),(4,25),(5,26),(6,27),(7,28),(8,29),(9,30),(10,31),(11,32),(12,33),(13,34)] kS ?_;iterate 3 (apply zT;exact⟨rfl,rfl⟩;(·intro wk hk;have:=hk.cell y0;have:=hk.cell y1;go_simp;try with_reducible rfl);simp only[kA];exact rfl)
    iterate 10 (apply zK;exact⟨rfl,rfl⟩;simp only[kA];exact rfl)
    (apply zT;exact⟨rfl,rfl⟩;(·intro wk hk;have:=hk.cell y0;have:=hk.cell y1;go_simp;try with_reducible rfl);simp only[kA];exact rfl);refine zN (zD ?_);have HT:=zZ (show qj l 0=true by rw[lV HX.out];exact HOK.out);have HWd:=zZ (HF2.out.xt.trans kS);have y2:=((HF2.out.ext kS).at_ 0 rfl).c 2 rfl;clear kS y0 y1 hd1 hd2;by_cases hu:xt=1
    ·have HU:=zZ (show u+1=dr l (0+1) by rw[i6 HX.out hu,HA.out.2]);subst hu;go_wp2_with fail;go_roundw
     case rel=>exact⟨0+1,u+1,by go_num,by go_num,by omega,by omega,⟨⟨HWd.out,fun j hj=>by obtain rfl:j=0:=(by omega);exact HT.out,HU.out⟩⟩⟩
     case measure=>simp[intOf];omega
    ·have HU:=zZ (show u=dr l (0+1) by rw[jU HX.out hu,HA.out.2]);have hub:(xt==1)=false:=beq_eq_false_iff_ne.2 hu;go_wp2_with fail;go_roundw
     case rel=>exact⟨0+1,u,rfl,by go_num,by omega,by omega,⟨⟨HWd.out,fun j hj=>by obtain rfl:j=0:=(by omega);exact HT.out,HU.out⟩⟩⟩
     case measure=>simp[intOf];omega
   ·obtain⟨m,hm⟩:∃m,m+1=k:=⟨k-1,by omega⟩
    have hmn:m<n:=by omega
    obtain⟨zs,zq,zt,za,zb,zc,zd,HZ,-,z0,z1,-⟩:=eF.read HV.out (HE2.out.trans hx2) hmn;have HSG:=zZ (show qj l k=(oT (⟨⟨xs,xq⟩,xt,⟨xa,xb,xc,xd⟩⟩:aY)&&aW ⟨⟨zs,zq⟩,zt,⟨za,zb,zc,zd⟩⟩ ⟨⟨xs,xq⟩,xt,⟨xa,xb,xc,xd⟩⟩) by rw[←hm];exact kR (by rw[hm];exact HX.out) HZ.out);have m1:IntKind.i64.wrap ((k:Int)-1)=(m:Int):=by rw[yQ _ (by omega)];omega
    have hkg:decide ((k:Int)>0)=true:=by simp;omega
    have hmm1:m+1≤k:=by omega
    have hmm2:k≤m+1:=by omega
    clear hm;refine zQ 99 fun wd kS=>?_;refine zS 11 [(0,21),(1,22),(2,23),(3,24),(4,25),(5,26),(6,27),(7,28),(8,29),(9,30),(10,31)] kS ?_;iterate 11 (apply zT;exact⟨rfl,rfl⟩;(·intro wk hk;have:=hk.cell y0;have:=hk.cell y1;have:=hk.cell z0;have:=hk.cell z1;go_simp;try with_reducible rfl);simp only[kA];exact rfl)
    refine zN (zO 11 (fun K hK=>?_));go_simp;refine (iD zs zq xs xq _).mono ?_;rintro e w3 ⟨rfl,hx3⟩;have kS2:ab w2 w3:=kS.trans hx3;have HWd:=zZ (HF2.out.xt.trans kS2);have y2:=((HF2.out.ext kS2).at_ 0 rfl).c 2 rfl;rcases bY zs zq xs xq with ⟨h1,e1⟩|⟨h1,e1⟩|⟨h1,e1⟩
    ·have HT:=zZ (show qj l k=true by rw[HSG.out,HOK.out];unfold aW gY;simp;omega);rw[e1];clear h1 e1;refine hK.out _ _ (fun _=>kS2) ?_;clear hK K;try simp only[kA]
     refine zS 2 [(12,33),(13,34)] kS2 ?_;iterate 2 (apply zT;exact⟨rfl,rfl⟩;(·intro wk hk;have:=hk.cell y0;have:=hk.cell y1;have:=hk.cell z0;have:=hk.cell z1;go_simp;try with_reducible rfl);simp only[kA];exact rfl)
     refine zN (zD ?_);clear kS kS2 y0 y1 z0 z1 hd1 hd2 m1 hkg hx3;by_cases hu:xt=1
     ·have HU:=zZ (show u+1=dr l (k+1) by rw[i6 HX.out hu,HA.out.2]);subst hu;go_wp2_with fail;go_roundw
      case rel=>exact⟨k+1,u+1,by go_num,by go_num,by omega,by omega,⟨⟨HWd.out,fun j hj=>by rcases zV j k with h|h;exact HA.out.1 j h;obtain rfl:j=k:=(by omega);exact HT.out,HU.out⟩⟩⟩
      case measure=>simp[intOf];omega
     ·have HU:=zZ (show u=dr l (k+1) by rw[jU HX.out hu,HA.out.2]);have hub:(xt==1)=false:=beq_eq_false_iff_ne.2 hu;go_wp2_with fail;go_roundw
      case rel=>exact⟨k+1,u,rfl,by go_num,by omega,by omega,⟨⟨HWd.out,fun j hj=>by rcases zV j k with h|h;exact HA.out.1 j h;obtain rfl:j=k:=(by omega);exact HT.out,HU.out⟩⟩⟩
      case measure=>simp[intOf];omega
    ·have HE:=zZ (show fM l=false from jI HKL.out (by rw[HSG.out,HOK.out];unfold aW gY;simp;omega));rw[e1];clear h1 e1;refine hK.out _ _ (fun _=>kS2) ?_;clear hK K;try simp only[kA]
     refine zS 2 [(12,33),(13,34)] kS2 ?_;iterate 2 (apply zT;exact⟨rfl,rfl⟩;(·intro wk hk;have:=hk.cell y0;have:=hk.cell y1;have:=hk.cell z0;have:=hk.cell z1;go_simp;try with_reducible rfl);simp only[kA];exact rfl)
     refine zN (zD ?_);go_wp2_with fail;refine bodyPost_ret (v:=.tuple #[B C 0,.bool false]) (by simp[results,results64,go_sem]) rfl ⟨⟨0,by rw[HE.out];rfl,fun h=>by rw[HE.out]at h;cases h⟩,HWd.out⟩
    ·have HE:=zZ (show fM l=false from jI HKL.out (by rw[HSG.out,HOK.out];unfold aW gY;simp;omega));rw[e1];clear h1 e1;refine hK.out _ _ (fun _=>kS2) ?_;clear hK K;try simp only[kA]
     refine zS 2 [(12,33),(13,34)] kS2 ?_;iterate 2 (apply zT;exact⟨rfl,rfl⟩;(·intro wk hk;have:=hk.cell y0;have:=hk.cell y1;have:=hk.cell z0;have:=hk.cell z1;go_simp;try with_reducible rfl);simp only[kA];exact rfl)
     refine zN (zD ?_);go_wp2_with fail;refine bodyPost_ret (v:=.tuple #[B C 0,.bool false]) (by simp[results,results64,go_sem]) rfl ⟨⟨0,by rw[HE.out];rfl,fun h=>by rw[HE.out]at h;cases h⟩,HWd.out⟩
  ·obtain rfl:k=n:=by omega
   have HE:=zZ (show fM l=true from uI fun j hj=>HR.out.2.1 j (by have:=HL.out;omega));have HU:=zZ (show u=fJ l by rw[HR.out.2.2,oN HL.out]);have HW:=zZ HR.out.1;clear HR;go_wp2_with fail;refine bodyPost_ret (v:=.tuple #[B C (u:Int),.bool true]) (by simp[results,results64,go_sem]) rfl ⟨⟨u,by rw[HE.out],fun _=>HU.out⟩,HW.out⟩
end Go.Proofs.YtjgfgdcaocbfhaaGreat

namespace Go.Proofs.YtjgfgdcaocbfhaaGreat
open Go.Value renaming int→B,slice→D
open Go.IntKind renaming i64→C
open Go.RowKit Go.Sort
section
variable {w w':World} {b:Nat} {v:Value} {l ts:List Int}
theorem uE(W:World):grow W #[]=W:=by simp[grow]
theorem av.sorted{g cap n:Nat}{os:Array Obj}(h:av w b (D (some ⟨g,0,none⟩) l.length cap) l)(hl:ts.length=l.length)(hm:∀x∈ts,aC x) :
  av (grow (putRow (Value.int .i64) (Sort.ahead w n) g 0 ts.toArray) os) b (D (some ⟨g,0,none⟩) l.length cap) ts:=by
 rcases h.1.2 with ⟨e,h0⟩|⟨g',cap',cur,e,hb,hk,h1,h2,h3,h4⟩
 ·cases e
 ·cases e;exact⟨by rw[hl];exact ownsRow_sortedI hl hb hk h1 h2 h3,hm,by rw[hl];exact h.2.2⟩
theorem av.take{g n cap k:Nat}(h:av w b (D (some ⟨g,0,none⟩) n cap) l)(hn:l.length=n)(hk:k≤n):av w b (D (some ⟨g,0,none⟩) k cap) (l.take k):=by
 subst hn;have h1:=E8 h.1 hk;rw[wY,←List.map_take]at h1;have hl:(l.take k).length=k:=by simp;omega
 exact⟨by rw[hl];exact h1,fun x hx=>h.2.1 x (wQ hx),by have:=h.2.2;omega⟩
end
theorem BR(v:Value)(l:List Int)(w:World){b:Nat}(h:av w b v l) :
  Calls Tryz.prog 102 #[v] w fun e w'=>e=.returned (.tuple #[])∧av w' b v (l.mergeSort fun x y=>decide (x≤y))∧w.grownBy w' v.ownBlock:=by
 rcases h.1.2 with ⟨e,h0⟩|⟨g,cap,cur,e,hb,hk,h1,h2,h3,h4⟩
 ·subst e;have hl:l=[]:=yO h0;subst hl;refine (AnyG.slices_Sort_int_none Bw none 0 w).mono ?_;rintro e w' ⟨rfl,rfl⟩;exact⟨rfl,by simpa using av.nil w' b,wJ _ _⟩
 ·subst e;refine (AnyG.slices_Sort_int Bw g 0 cap l w (holds_of_blockI hk (by simpa using h4)) (Array.getElem?_eq_some_iff.1 hk).1 (by have:=h.2.2;omega)).mono ?_;rintro e w' ⟨rfl,n,os,rfl⟩;exact⟨rfl,h.sorted (by simp) (fun x hx=>h.2.1 x (List.mem_mergeSort.1 hx)),grownBy_sortedI _⟩
theorem vw(zs:List Int):(Lib.compact zs).length≤zs.length∧∀x∈Lib.compact zs,x∈zs:=by unfold Lib.compact Lib.compactUpTo;refine⟨by rw[zM];exact yL (xC _ _) (by simp),fun x hx=>?_⟩;obtain⟨j,hj,rfl⟩:=zJ.1 hx;have h:=zB.1 (xY.1 hj).1;rw[getElem!_pos zs.toArray j (by simpa using h)];simp
theorem r6(v:Value)(l:List Int)(w:World){b:Nat}(h:av w b v l) :
  Calls Tryz.prog 103 #[v] w fun e w'=>(∃v',e=.returned v'∧av w' b v' (Lib.compact l))∧w.grownBy w' v.ownBlock:=by
 rcases h.1.2 with ⟨e,h0⟩|⟨g,cap,cur,e,hb,hk,h1,h2,h3,h4⟩
 ·subst e;have hl:l=[]:=yO h0;subst hl;refine (AnyG.slices_Compact_int_empty pB none 0 w).mono ?_;rintro e w' ⟨rfl,rfl⟩;have e:Lib.compact ([]:List Int)=[]:=rfl;exact⟨⟨_,rfl,by rw[e];exact av.nil w' b⟩,wJ _ _⟩
 ·subst e;have hcl:=vw l;refine (AnyG.slices_Compact_int pB g 0 cap l w (holds_of_blockI hk (by simpa using h4)) (by have:=h.2.2;omega) h1).mono ?_;rintro e w' ⟨rfl,n,rfl⟩;have h5:=h.sorted (n:=n) (os:=#[]) (ts:=Lib.compact l++List.replicate (l.length-(Lib.compact l).length) 0) (by simp;omega) (fun x hx=>by
   rcases zC.1 hx with hx|hx
   ·exact h.2.1 x (hcl.2 x hx)
   ·obtain rfl:=List.eq_of_mem_replicate hx;exact⟨by decide,by decide⟩)
  have h6:=h5.take (k:=(Lib.compact l).length) (by simp;omega) hcl.1;rw[uE,List.take_left]at h6;have h7:=grownBy_sortedI (w:=w) (g:=g) (n:=n) (os:=#[]) (Lib.compact l++List.replicate (l.length-(Lib.compact l).length) 0).toArray;rw[uE]at h7;exact⟨⟨_,rfl,h6⟩,h7⟩
def fN(l:List aY)(c:Int)(k:Nat):List Int:=((l.take k).filter (jx c)).map fun x=>x.lab.g
section
variable {l:List aY} {c:Int} {k:Nat} {x:aY}
theorem y9(hx:l[k]?=some x)(h:jx c x=false):fN l c (k+1)=fN l c k:=by unfold fN;rw[ag hx,yJ,wW (by rw[h];simp)];simp
theorem CG(hx:l[k]?=some x)(h:jx c x=true):fN l c (k+1)=fN l c k++[x.lab.g]:=by unfold fN;rw[ag hx,yJ,wX h,List.filter_nil,yN,xI,List.map_nil]
theorem C9(h:l.length=k):Lib.compact ((fN l c k).mergeSort fun x y=>decide (x≤y))=dc l c:=by rw[rV];unfold fN dc;rw[aD (by omega)]
theorem CF(l:List aY)(c:Int)(k:Nat):(fN l c k).length≤k:=by unfold fN;rw[zM];exact yL (xC _ _) (by simp;omega)
end
theorem qr(v:Value)(t:en)(c:Int)(w:World){p:Nat}(hp:p<w.heap.size)(ht:bN p w v t)(hn:t.sts.length≤1000) :
  Calls Tryz.prog 70 #[v,B C c] w fun e w'=>(∃v',e=.returned v'∧av w' w.heap.size v' (dc t.sts c))∧ab w w':=by
 obtain⟨i0,hi0,hz0,hz1,hz2⟩:=info_parts Tryz.infoI;obtain⟨vS,vG,rfl,hS,hG⟩:=ht;obtain⟨AG,nG,cG,rfl,-⟩:=hG.open_;obtain⟨AS,nS,cS,rfl,hnc,hcc,hnn,HL⟩:=hS.open_;have HS:Bx (eF p w (D AS nS cS) t.sts):=⟨hS⟩
 have hn3:nS≤1000:=by have:=HL.out;omega
 clear hS hG hn;obtain⟨w1,hw1⟩:=nm ((w.alloc (.cells #[D AS nS cS,D AG nG cG] 31)):World);have HF:Bx (ae w w1 [(w.heap.size,#[D AS nS cS,D AG nG cG],31)]):=⟨by rw[hw1];exact (ae.start w).push _ _ rfl⟩
 go_enter Tryz.func70,Tryz.ntmps70
 go_upto_region 1 with (fail)
 rw[←hw1];clear hw1;have b0:=(HF.out.at_ 0 rfl).c 0 rfl;go_wp2_with fail;clear b0;go_loopw [5,11] (fun s5 s11 wr=>∃k:Nat,s11=B C k∧k≤nS∧Bx (ae w wr [(w.heap.size,#[D AS nS cS,D AG nG cG],31)]∧av wr w.heap.size s5 (fN t.sts c k))) (fun _ k _=>nS-(intOf k).toNat)
 case atStart=>exact⟨0,rfl,by omega,⟨⟨HF.out,by simpa[fN] using av.nil w1 w.heap.size⟩⟩⟩
 case round =>
  obtain⟨k,rfl,hk,HR⟩:=hrel;have HFr:Bx (ae w wr [(w.heap.size,#[D AS nS cS,D AG nG cG],31)]):=⟨HR.out.1⟩
  have HO:Bx (av wr w.heap.size _ (fN t.sts c k)):=⟨HR.out.2⟩
  obtain⟨Ao,co,hu⟩:=HO.out.form;obtain⟨no,hno⟩:=nm ((fN t.sts c k).length);have hnok:no≤k:=by rw[hno];exact CF _ _ _
  have HNO:=zZ hno;rw[←hno]at hu;subst hu;clear HR HF hno;by_cases hkn:k<nS
  ·obtain⟨b,off,_,_,rfl,-⟩:=HS.out.at_ hkn;obtain⟨xs,xq,xt,xa,xb,xc,xd,HX,hwf,x0,x1,x2,x3,x4,x5,x6⟩:=eF.read HS.out HFr.out.xt hkn;have hxg:aC xc:=hwf.2.2.2.2.1;clear hwf;go_upto_region 5 with (fail)
   obtain⟨w2,hw2⟩:=nm ((wr.alloc (.cells #[B C xs,B C xq,B C xt,B C xa,B C xb,B C xc,B C xd] 75)):World);have HF2:Bx (ae w w2 [(w.heap.size,#[D (some ⟨b,off,none⟩) nS cS,D AG nG cG],31),(wr.heap.size,#[B C xs,B C xq,B C xt,B C xa,B C xb,B C xc,B C xd],75)]):=⟨by rw[hw2];exact HFr.out.push _ _ rfl⟩
   have HO2:Bx (av w2 w.heap.size (D Ao no co) (fN t.sts c k)):=⟨by rw[hw2];exact HO.out.ext ((zE _).alloc _)⟩
   rw[←hw2];clear hw2 x0 x1 x2 x3 x4 x5 x6 HFr HO;obtain⟨gx,hgx⟩:=nm wr.heap.size;rw[←hgx]at HF2;rw[←hgx];clear hgx;have y2:=(HF2.out.at_ 1 rfl).c 2 rfl;have y4:=(HF2.out.at_ 1 rfl).c 4 rfl;have y5:=(HF2.out.at_ 1 rfl).c 5 rfl;by_cases h1:xt=3∧xb=c;case neg =>
    have HEND:Bx (ae w w2 [(w.heap.size,#[D (some ⟨b,off,none⟩) nS cS,D AG nG cG],31)]∧av w2 w.heap.size (D Ao no co) (fN t.sts c (k+1))):=⟨by rw[y9 HX.out (by unfold jx;simp only[Bool.and_eq_false_iff,decide_eq_false_iff_not];omega)];exact⟨HF2.out.take 1,HO2.out⟩⟩
    by_cases h2:xt=3
    ·have h3:(xb==c)=false:=by simp;omega
     subst h2;go_wp2_with fail;go_roundw
     case rel=>exact⟨k+1,by go_num,by omega,HEND⟩
     case measure=>simp[intOf];omega
    ·have h3:(xt==3)=false:=by simp;omega
     go_wp2_with fail;go_roundw
     case rel=>exact⟨k+1,by go_num,by omega,HEND⟩
     case measure=>simp[intOf];omega
   obtain⟨rfl,rfl⟩:=h1;have HPUT:=zZ (CG (c:=xb) HX.out (by unfold jx;simp));have hxb:(xb==xb)=true:=by simp
   go_wp2_with (at_builtin;refine al _ rfl (.tmp 25) (.tmp 29) 22 rfl w.heap.size 3 i0 _ 8 Tryz.underlying22 hi0 hz0 hz1 hz2 rfl (D Ao no co) _ _ rfl (ac HO2.out.1 ((zE _).alloc _)) _ _ rfl (by simp;rfl) rfl (by have:=HNO.out;omega) (by omega) (by have:=HF2.out.xt.size;simp;omega) ?_;intro v5 w5 hown5 hg5;have HF5:=zZ ((HF2.out.ext ((zE _).alloc _)).grownT (ac HO2.out.1 ((zE _).alloc _)) hg5 (zX _) rfl);have HO5:=zZ hown5;clear hown5 hg5);go_roundw
   case rel =>
    refine⟨k+1,by go_num,by omega,⟨⟨HF5.out.take 1,?_⟩⟩⟩;rw[HPUT.out];have h5:=HO5.out;refine⟨by simpa using h5,fun z hz=>?_,by simp;have:=HNO.out;omega⟩;rcases zC.1 hz with hz|hz
    ·exact HO2.out.2.1 z hz
    ·obtain rfl:z=xc:=by simpa using hz
     exact hxg
   case measure=>simp[intOf];omega
  ·obtain rfl:k=nS:=by omega
   have HC:=zZ (C9 (l:=t.sts) (c:=c) HL.out);have HF1:=HFr;go_wp2_with (first
    |(refine (BR _ _ _ HO.out).mono ?_;rintro e w3 ⟨rfl,hv3,hg3⟩;have HV3:=zZ hv3;have HF3:=zZ (HFr.out.grownT HO.out.1 hg3 (zX _) rfl);clear hv3 hg3)
    |(refine (r6 _ _ _ HV3.out).mono ?_;rintro e w4 ⟨⟨v4,rfl,hv4⟩,hg4⟩;have HV4:=zZ hv4;have HF4:=zZ (HF3.out.grownT HV3.out.1 hg4 (zX _) rfl);clear hv4 hg4))
   go_ret
   exact⟨⟨v4,rfl,by rw[←HC.out];exact HV4.out⟩,HF4.out.xt⟩
end Go.Proofs.YtjgfgdcaocbfhaaGreat

namespace Go.Proofs.YtjgfgdcaocbfhaaGreat
open Go.Value renaming int→B,slice→D
open Go.IntKind renaming i64→C
open Go.RowKit _root_.Go.Proofs.Tryz
section
variable {l:List Pg} {c:Int} {k:Nat} {x:Pg}
theorem qI(h:bT l c (k:Int)=some x):aK l c (k+1)=aK l c k:=by unfold aK;rw[eR (α:=Nat)];simp[h]
theorem rf(h:bT l c (k:Int)=none):aK l c (k+1)=aK l c k++[(k:Int)]:=by unfold aK;rw[eR (α:=Nat)];simp[h]
theorem pu(l:List Pg)(c:Int)(k:Nat):(aK l c k).length≤k:=by unfold aK;exact yL (vZ _ _) (by simp)
end
section
variable {s:aZ} {i:en} {x:dF}
theorem sW(h:dc i.sts x.cand≠[]):bW s i x=⟨x.cand,3,dc i.sts x.cand⟩:=by unfold bW;rw[if_pos h]
theorem tm(h:dc i.sts x.cand=[])(h2:aK i.pgs x.cand (fA s x.var)=[]):bW s i x=⟨x.cand,1,[]⟩:=by unfold bW;rw[if_neg (by simp[h]),if_pos h2]
theorem DQ(h:dc i.sts x.cand=[])(h2:aK i.pgs x.cand (fA s x.var)≠[])(h3:(aK i.pgs x.cand (fA s x.var)).length=fA s x.var):bW s i x=⟨x.cand,4,[]⟩:=by unfold bW;rw[if_neg (by simp[h]),if_neg h2,if_pos h3]
theorem tF(h:dc i.sts x.cand=[])(h2:aK i.pgs x.cand (fA s x.var)≠[])(h3:(aK i.pgs x.cand (fA s x.var)).length≠fA s x.var):bW s i x=⟨x.cand,2,aK i.pgs x.cand (fA s x.var)⟩:=by unfold bW;rw[if_neg (by simp[h]),if_neg h2,if_neg h3]
theorem sn{α:Type}{l:List α}:l=[]↔l.length=0:=⟨fun h=>by rw[h];rfl,yO⟩
end
def EP(w:World)(x:Am)(e:Ending)(w':World):Prop:=(∃vp,e=.returned (.agg #[B C x.cand,B C x.state,vp])∧av w' w.heap.size vp x.pgs)∧ab w w'
theorem fx(v vi:Value)(s:aZ)(t:en)(xa xb xd:Int)(w:World){p:Nat}(hp:p<w.heap.size)(hs:aN p w v s)(ht:bN p w vi t)(hok:cD s)(ha:fB cM t.pgs)(hx:(⟨xa,xb,xd⟩:dF)∈s.xp)(hn1:t.sts.length≤1000)(hn2:t.pgs.length≤1000) :
  Calls prog 34 #[v,vi,.agg #[B C xa,B C xb,B C xd]] w (EP w (bW s t ⟨xa,xb,xd⟩)):=by
 obtain⟨i0,hi0,hz0,hz1,hz2⟩:=info_parts Tryz.infoI;have HT0:=zZ ht;obtain⟨vP,vB,vX,rfl,hP,hB,hX,hnum⟩:=hs;obtain⟨AP,nP,cP,rfl,-⟩:=hP.open_;obtain⟨AB,nB,cB,rfl,hnB,hcB,hmB,HLB⟩:=hB.open_;obtain⟨AX,nX,cX,rfl,-⟩:=hX.open_;obtain⟨vS,vG,rfl,hS,hG⟩:=ht;obtain⟨AS,nS,cS,rfl,-⟩:=hS.open_;obtain⟨AG,nG,cG,rfl,-⟩:=hG.open_;have hxb:=fw hok hx;simp only at hxb;obtain⟨xb1,xb2,xb3,xb4,xb5,xb6⟩:=hxb;obtain⟨pq,bk,hpq,hbk,hbb,-,-,-⟩:=gQ hok xb3 xb4;have hbn:bk.length≤1000:=by have:=(jg hbb).2.1;omega
 have hnp:fA s xd=bk.length:=by unfold fA;rw[hbk];rfl
 have hbks:=hok.bks;obtain⟨r,rfl⟩:=zG xb3;rw[yR]at hpq hbk;have hrB:r<nB:=by have:=HLB.out;omega
 obtain⟨bB,oB,_,_,rfl,-⟩:=hB.at_ hrB;have HB0:=zZ hB;have HBK:=zZ hbk;have HNP:=zZ hnp;have HA:=zZ ha;have HN:Bx (t.sts.length≤1000∧t.pgs.length≤1000∧bk.length≤1000):=⟨⟨hn1,hn2,hbn⟩⟩
 clear hP hB hX hnum hS hG hok hx hpq hbk hbb hbn hnp hbks ha hn1 hn2 HLB;obtain⟨w1,hw1⟩:=nm (((((w.alloc (.cells #[B C s.num,D AP nP cP,D (some ⟨bB,oB,none⟩) nB cB,D AX nX cX] 27)).alloc (.cells #[D AS nS cS,D AG nG cG] 31)).alloc (.cells #[B C xa,B C xb,B C (r:Int)] 83)).alloc (.cells #[B C 0,B C 0,D none 0 0] 41)):World);have HF:Bx (ae w w1 [(w.heap.size,#[B C s.num,D AP nP cP,D (some ⟨bB,oB,none⟩) nB cB,D AX nX cX],27),(w.heap.size+1,#[D AS nS cS,D AG nG cG],31),(w.heap.size+1+1,#[B C xa,B C xb,B C (r:Int)],83),(w.heap.size+1+1+1,#[B C 0,B C 0,D none 0 0],41)]):=⟨by rw[hw1];exact ((((ae.start w).push _ _ rfl).push _ _ (by simp)).push _ _ (by simp)).push _ _ (by simp)⟩
 go_enter func34,ntmps34
 go_upto_region 1 with (fail)
 rw[←hw1];clear hw1;have i0':=(HF.out.at_ 1 rfl).c 0 rfl;have i1':=(HF.out.at_ 1 rfl).c 1 rfl;have x0:=(HF.out.at_ 2 rfl).c 0 rfl;go_upto_region 2 with (go_at_call 70;refine (qr _ t xa _ (p:=p) (zP hp HF.out.xt.size) (HT0.out.ext HF.out.xt) HN.out.1).mono ?_;rintro e w2 ⟨⟨v2,rfl,hv2⟩,hx2⟩)
 have HF2:=bx (HF.out.ext hx2);have HV2:Bx (av w2 w.heap.size v2 (dc t.sts xa)):=⟨hv2.base_ HF.out.xt.size⟩
 obtain⟨A2,c2,rfl⟩:=hv2.form;obtain⟨n2,hn2⟩:=nm ((dc t.sts xa).length);have hn2b:n2≤1000000:=by rw[hn2];exact hv2.2.2
 rw[←hn2]at HV2;rw[←hn2];have HN2:=zZ hn2;clear hn2 hv2 HF hx2 i0' i1' x0;have x0:=(HF2.out.at_ 2 rfl).c 0 rfl;have x2:=(HF2.out.at_ 2 rfl).c 2 rfl;have s2:=(HF2.out.at_ 0 rfl).c 2 rfl;by_cases h0:0<n2
 ·have HE:=zZ (sW (s:=s) (i:=t) (x:=⟨xa,xb,(r:Int)⟩) (show dc t.sts xa≠[] by intro e;have:=HN2.out;rw[e]at this;simp at this;omega));obtain⟨r0,r1,r2⟩:=(HF2.out.at_ 3 rfl).p3 rfl;have f0:=(HF2.out.at_ 3 rfl).froz;have f1:=f0;have f2:=f0;go_wp2_with fail;have h9:=HF2.out.setAll 3 rfl [B C xa,B C 3,D A2 n2 c2] rfl;have h8:=HV2.out.sets (HF2.out.at_ 3 rfl) (by decide) 0 [B C xa,B C 3,D A2 n2 c2];refine bodyPost_ret (v:=.agg #[B C xa,B C 3,D A2 n2 c2]) (by simp[results,results34,go_sem,r0,r1,r2]) rfl ⟨⟨D A2 n2 c2,by rw[HE.out],by rw[HE.out];exact h8⟩,h9.xt⟩
 obtain rfl:n2=0:=by omega
 have HCO:=zZ (sn.2 HN2.out.symm);obtain⟨Ab,nb,cb,b0,-,HNB⟩:=dQ HB0.out HBK.out HF2.out.xt.xt;have hnb:nb≤1000:=by have:=HNB.out;have:=HN.out.2.2;omega
 clear h0 hn2b HV2;go_wp2_with fail;clear b0 x0 x2 s2;go_loopw [8,33] (fun s8 s33 wr=>∃k:Nat,s33=B C k∧k≤nb∧Bx (ae w wr [(w.heap.size,#[B C s.num,D AP nP cP,D (some ⟨bB,oB,none⟩) nB cB,D AX nX cX],27),(w.heap.size+1,#[D AS nS cS,D AG nG cG],31),(w.heap.size+1+1,#[B C xa,B C xb,B C (r:Int)],83),(w.heap.size+1+1+1,#[B C 0,B C 0,D none 0 0],41)]∧av wr w.heap.size s8 (aK t.pgs xa k))) (fun _ k _=>nb-(intOf k).toNat)
 case atStart=>exact⟨0,rfl,by omega,⟨⟨HF2.out,by simpa[aK] using av.nil w2 w.heap.size⟩⟩⟩
 case round =>
  obtain⟨k,rfl,hk,HR⟩:=hrel;have HFr:Bx (ae w wr [(w.heap.size,#[B C s.num,D AP nP cP,D (some ⟨bB,oB,none⟩) nB cB,D AX nX cX],27),(w.heap.size+1,#[D AS nS cS,D AG nG cG],31),(w.heap.size+1+1,#[B C xa,B C xb,B C (r:Int)],83),(w.heap.size+1+1+1,#[B C 0,B C 0,D none 0 0],41)]):=⟨HR.out.1⟩
  have HO:Bx (av wr w.heap.size _ (aK t.pgs xa k)):=⟨HR.out.2⟩
  obtain⟨Ao,co,hu⟩:=HO.out.form;obtain⟨no,hno⟩:=nm ((aK t.pgs xa k).length);have hnok:no≤k:=by rw[hno];exact pu _ _ _
  have HNO:=zZ hno;rw[←hno]at hu;subst hu;clear HR HF2 hno;by_cases hkn:k<nb
  ·have i0':=(HFr.out.at_ 1 rfl).c 0 rfl;have i1':=(HFr.out.at_ 1 rfl).c 1 rfl;have x0:=(HFr.out.at_ 2 rfl).c 0 rfl;go_upto_region 10 with (go_at_call 40;refine (eH _ t xa (k:Int) _ (p:=p) (HT0.out.ext HFr.out.xt) HA.out (by have:=HN.out.2.1;omega)).mono ?_;rintro e w3 ⟨yc,yg,yt,ys,yq,ych,yA,yn,ycc,rfl,-,-,-,hx3⟩)
   obtain⟨w4,hw4⟩:=nm ((w3.alloc (.cells #[B C yc,B C yg,B C yt,D yA yn ycc,B C ys,B C yq] 77)):World);have hx4:ab wr w4:=by rw[hw4];exact hx3.alloc _
   rw[←hw4];have HF4:=bx (HFr.out.ext hx4);have HO4:=bx (HO.out.ext hx4);clear hw4 hx4 hx3 HFr HO i0' i1' x0;cases hpf:bT t.pgs xa (k:Int) with
   |some y =>
    have HM:=zZ (qI hpf);clear hpf;go_wp2_with fail;go_roundw
    case rel=>exact⟨k+1,by go_num,by omega,⟨⟨HF4.out,by rw[HM.out];exact HO4.out⟩⟩⟩
    case measure=>simp[intOf];omega
   |none =>
    have HM:=zZ (rf hpf);clear hpf;go_wp2_with (at_builtin;refine al _ rfl (.tmp 46) (.tmp 48) 22 rfl w.heap.size 3 i0 _ 8 underlying22 hi0 hz0 hz1 hz2 rfl (D Ao no co) _ _ rfl (ac HO4.out.1 ((zE _).alloc _)) _ _ rfl (by simp;rfl) rfl (by have:=HNO.out;omega) (by omega) (by have:=HF4.out.xt.size;simp;omega) ?_;intro v5 w5 hown5 hg5;have HF5:=zZ ((HF4.out.ext ((zE _).alloc _)).grownT (ac HO4.out.1 ((zE _).alloc _)) hg5 (zX _) rfl);have HO5:=zZ hown5;clear hown5 hg5);go_roundw
    case rel =>
     refine⟨k+1,by go_num,by omega,⟨⟨HF5.out,?_⟩⟩⟩;rw[HM.out];have h5:=HO5.out;refine⟨by simpa using h5,fun z hz=>?_,by simp;have:=HNO.out;omega⟩;rcases zC.1 hz with hz|hz
     ·exact HO4.out.2.1 z hz
     ·obtain rfl:z=(k:Int):=by simpa using hz
      exact⟨by omega,by omega⟩
    case measure=>simp[intOf];omega
  ·obtain rfl:k=nb:=by omega
   have HNK:=zZ (show fA s (r:Int)=k by rw[HNP.out,HNB.out]);have x0:=(HFr.out.at_ 2 rfl).c 0 rfl;obtain⟨r0,r1,r2⟩:=(HFr.out.at_ 3 rfl).p3 rfl;have f0:=(HFr.out.at_ 3 rfl).froz;have f1:=f0;have f2:=f0;by_cases h1:no=0
   ·have HE:=zZ (tm (s:=s) (x:=⟨xa,xb,(r:Int)⟩) HCO.out (by simp only[HNK.out];exact sn.2 (by rw[←HNO.out,h1])));subst h1;go_wp2_with fail;have h9:=HFr.out.setAll 3 rfl [B C xa,B C 1,D none 0 0] rfl;refine bodyPost_ret (v:=.agg #[B C xa,B C 1,D none 0 0]) (by simp[results,results34,go_sem,r0,r1,r2]) rfl ⟨⟨D none 0 0,by rw[HE.out],by rw[HE.out];exact av.nil _ _⟩,h9.xt⟩
   have hno0:((no:Int)==0)=false:=by simp;omega
   by_cases h2:no=k
   ·have HE:=zZ (DQ (s:=s) (x:=⟨xa,xb,(r:Int)⟩) HCO.out (by simp only[HNK.out];intro e;have:=HNO.out;rw[e]at this;simp at this;omega) (by simp only[HNK.out];rw[←HNO.out,h2]));subst h2;have hnok:((no:Int)==(no:Int))=true:=by simp
    go_wp2_with fail;have h9:=HFr.out.setAll 3 rfl [B C xa,B C 4,D none 0 0] rfl;refine bodyPost_ret (v:=.agg #[B C xa,B C 4,D none 0 0]) (by simp[results,results34,go_sem,r0,r1,r2]) rfl ⟨⟨D none 0 0,by rw[HE.out],by rw[HE.out];exact av.nil _ _⟩,h9.xt⟩
   ·have HE:=zZ (tF (s:=s) (x:=⟨xa,xb,(r:Int)⟩) HCO.out (by simp only[HNK.out];intro e;have:=HNO.out;rw[e]at this;simp at this;omega) (by simp only[HNK.out];rw[←HNO.out];exact h2));simp only[HNK.out]at HE;have hnok2:((no:Int)==(k:Int))=false:=by simp;omega
    go_wp2_with fail;have h9:=HFr.out.setAll 3 rfl [B C xa,B C 2,D Ao no co] rfl;have h8:=HO.out.sets (HFr.out.at_ 3 rfl) (by decide) 0 [B C xa,B C 2,D Ao no co];refine bodyPost_ret (v:=.agg #[B C xa,B C 2,D Ao no co]) (by simp[results,results34,go_sem,r0,r1,r2]) rfl ⟨⟨D Ao no co,by rw[HE.out],by rw[HE.out];exact h8⟩,h9.xt⟩
end Go.Proofs.YtjgfgdcaocbfhaaGreat

