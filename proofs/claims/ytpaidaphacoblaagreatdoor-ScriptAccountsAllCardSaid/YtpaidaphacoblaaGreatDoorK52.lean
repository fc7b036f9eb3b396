import Derived.Deep.CutBlock
import Derived.Test.YtpaidaphacoblaaGreatDoorSitU
import Derived.Test.YtpaidaphacoblaaGreatDoorTapeB
import Derived.Test.YtpaidaphacoblaaGreatDoorScwW
import Derived.Test.YtpaidaphacoblaaGreatDoorK43
import Derived.Test.YtpaidaphacoblaaGreatDoorInkG
import Derived.Test.YtpaidaphacoblaaGreatDoorK50
set_option linter.all false
set_option maxRecDepth 100000
set_option maxHeartbeats 0
namespace Go.Proofs.YtpaidaphacoblaaGreatDoor
open Go.Value renaming int→B,slice→D
open Go.IntKind renaming i64→C
open Go.RowKit _root_.Go.Proofs.Tryz
variable {cs:Array Value} {k n:Nat}
theorem Qx{p g:Nat}{w:World}{t:TypeId}{l:List Int}(hb:Bk w g cs t)(hp:g≠p)(hl:cs=(l.map (Value.int .i64)).toArray)(h64:∀x∈l,aU x)(hn:l.length<=1000):ak p w (D (some ⟨g,0,none⟩) l.length l.length) l :=
 ⟨some ⟨g,0,none⟩,l.length,rfl,zX _,by omega,by omega,h64,fun k x hx=>⟨g,0,rfl,hp,by rw[yV];exact hb.cell (by rw[hl];simp[hx])⟩⟩
theorem iy{l:List dF}{x:dF}(hx:l[k]?=some x)(j:Int):un (l.take (k+1)) j=un (l.take k) j+(if x.state=j then 1 else 0):=by
 unfold un;rw[ax hx,xM,yU];by_cases h:x.state=j
 ·rw[if_pos h,uC (by simp[h])];simp
 ·rw[if_neg h,uB (by simp[h])];simp
theorem OV(l:List dF)(k:Nat)(j:Int):0<=un (l.take k) j/\un (l.take k) j<=(k:Int):=by
 unfold un;have h1:=uP (fun x:dF=>decide (x.state=j)) (l.take k);have h2:(l.take k).length<=k:=by rw[yW];omega
 omega
def Mu(l:List dF)(n k:Nat)(cs:Array Value):Prop:=cs=#[B C (n:Int),B C (un (l.take k) 1),B C (un (l.take k) 2),B C (un (l.take k) 3),B C (un (l.take k) 4),B C (un (l.take k) 5),B C (un (l.take k) 6)]
theorem PJ{l:List dF}{x:dF}(h:Mu l n k cs)(hx:l[k]?=some x)(hs:¬(1<=x.state/\x.state<=6)):Mu l n (k+1) cs:=by
 unfold Mu at *
 rw[iy hx,iy hx,iy hx,iy hx,iy hx,iy hx,if_neg (by omega),if_neg (by omega),if_neg (by omega),if_neg (by omega),if_neg (by omega),if_neg (by omega)];simpa using h
theorem QK{l:List dF}{j:Nat}{x:dF}(h:Mu l n k cs)(hx:l[k]?=some x)(hs:x.state=(j:Int))(h1:1<=j)(h6:j<=6):cs[j]?=some (B C (un (l.take k) (j:Int)))/\Mu l n (k+1) (cs.setIfInBounds j (B C (un (l.take k) (j:Int)+1))):=by
 unfold Mu at *
 subst h;rw[iy hx,iy hx,iy hx,iy hx,iy hx,iy hx,hs];rcases (by omega:j=1\/j=2\/j=3\/j=4\/j=5\/j=6) with rfl|rfl|rfl|rfl|rfl|rfl<;>exact⟨rfl,by simp⟩
theorem Qk{l:List dF}(h:Mu l n n cs)(hn:l.length=n):cs=((NB l).map (Value.int .i64)).toArray:=by unfold Mu at h;rw[h];unfold NB;rw[bh (by omega),hn];rfl
theorem QD{l:List dF}(hn:l.length<=1000000):∀x∈NB l,aU x:=by
 intro x hx;have hb:=OV l l.length;rw[bh (by omega)]at hb;unfold NB at hx;simp only[yM,wL,or_false]at hx;rcases hx with rfl|rfl|rfl|rfl|rfl|rfl|rfl
 ·exact⟨by omega,by omega⟩
 all_goals (first|(have:=hb 1;exact⟨by omega,by omega⟩)|(have:=hb 2;exact⟨by omega,by omega⟩)|(have:=hb 3;exact⟨by omega,by omega⟩)|(have:=hb 4;exact⟨by omega,by omega⟩)|(have:=hb 5;exact⟨by omega,by omega⟩)|(have:=hb 6;exact⟨by omega,by omega⟩))
theorem NK(v:Value)(t:r6)(w:World){p:Nat}(hp:p<w.heap.size)(ht:aK p w v t)(hn:t.sts.length<=1000000) :
  Calls prog 19 #[v] w fun e w'=>(∃vr,e=.returned vr/\ak p w' vr (NB t.sts))/\ab w w':=by
 obtain⟨vS,vG,rfl,hS,hG⟩:=ht;obtain⟨AG,nG,cG,rfl,-⟩:=hG.open_;obtain⟨AS,nS,cS,rfl,hnc,hcc,hnn,HL⟩:=hS.open_;have HS:Bx (rA p w (D AS nS cS) t.sts):=⟨hS⟩
 have hn3:nS<=1000000:=by have:=HL.out;omega
 have HN:=zZ hn;clear hS hG hn;obtain⟨w1,hw1⟩:=nm (((w.alloc (.cells #[D AS nS cS,D AG nG cG] 45)).alloc (.cells #[B C 0,B C 0,B C 0,B C 0,B C 0,B C 0,B C 0] 124)):World);have HF:Bx (aA w w1 [(w.heap.size,#[D AS nS cS,D AG nG cG],45),(w.heap.size+1,#[B C 0,B C 0,B C 0,B C 0,B C 0,B C 0,B C 0],124)]):=⟨by rw[hw1];exact ((aA.start w).push _ _ rfl).push _ _ (by simp)⟩
 go_enter func19,ntmps19
 go_upto_region 2 with (fail)
 rw[<-hw1];clear hw1;have b0:=(HF.out.at_ 0 rfl).c 0 rfl;have a0:=(HF.out.at_ 1 rfl).c 0 rfl;have f0:=(HF.out.at_ 1 rfl).froz;go_upto_region 3 with (fail)
 have hF2:=HF.out.set 1 rfl 0 (B C (nS:Int));obtain⟨w2,hw2⟩:=nm ((w1.setCell ⟨w.heap.size+1,0,none⟩ (B C (nS:Int))):World);rw[<-hw2]at hF2;rw[<-hw2];have HF2:Bx (∃cs,aA w w2 [(w.heap.size,#[D AS nS cS,D AG nG cG],45),(w.heap.size+1,cs,124)]/\Mu t.sts nS 0 cs):=⟨⟨_,hF2,by simp[Mu,un]⟩⟩
 clear hw2 hF2 HF b0 a0 f0;have b0:w2.cell? ⟨w.heap.size,0,none⟩=some (D AS nS cS):=by obtain⟨cs,h,-⟩:=HF2.out;exact (h.at_ 0 rfl).c 0 rfl
 go_wp2_with fail;clear b0;go_loopw [13] (fun s13 wr=>∃k:Nat,s13=B C k/\k<=nS/\Bx (∃cs,aA w wr [(w.heap.size,#[D AS nS cS,D AG nG cG],45),(w.heap.size+1,cs,124)]/\Mu t.sts nS k cs)) (fun k _=>nS-(intOf k).toNat)
 case atStart=>exact⟨0,rfl,by omega,HF2⟩
 case round =>
  obtain⟨k,rfl,hk,HR⟩:=hrel;obtain⟨cs,hfr,hac⟩:=HR.out;have HFr:Bx (aA w wr [(w.heap.size,#[D AS nS cS,D AG nG cG],45),(w.heap.size+1,cs,124)]):=⟨hfr⟩
  have HA:=zZ hac;clear HR HF2 hfr hac;have b0:=(HFr.out.at_ 0 rfl).c 0 rfl;by_cases hkn:k<nS
  ·obtain⟨bS,oS,_,_,rfl,-⟩:=HS.out.at_ hkn;obtain⟨xs,xq,xt,xa,xb,xc,xd,HX,-,x0,x1,x2,x3,x4,x5,x6⟩:=rA.read HS.out HFr.out.xt hkn;go_upto_region 6 with (fail)
   obtain⟨gx,hgx⟩:=nm wr.heap.size;obtain⟨w3,hw3⟩:=nm ((wr.alloc (.cells #[B C xs,B C xq,B C xt,B C xa,B C xb,B C xc,B C xd] 103)):World);have HF3:Bx (aA w w3 [(w.heap.size,#[D (some ⟨bS,oS,none⟩) nS cS,D AG nG cG],45),(w.heap.size+1,cs,124),(gx,#[B C xs,B C xq,B C xt,B C xa,B C xb,B C xc,B C xd],103)]):=⟨by rw[hw3];exact HFr.out.push _ _ hgx.symm⟩
   rw[<-hw3,<-hgx];clear hw3 hgx HFr b0 x0 x1 x2 x3 x4 x5 x6;have y2:=(HF3.out.at_ 2 rfl).c 2 rfl;by_cases hok:1<=xt/\xt<=6;case neg =>
    have HE:=zZ (PJ HA.out HX.out hok);by_cases h1:1<=xt
    ·have hd1:decide (xt≥1)=true:=decide_eq_true h1;have hd2:decide (xt<=6)=false:=decide_eq_false (by omega);go_wp2_with fail;go_roundw
     case rel=>exact⟨k+1,by go_num,by omega,⟨⟨cs,HF3.out.take 2,HE.out⟩⟩⟩
     case measure=>simp[intOf];omega
    ·have hd1:decide (xt≥1)=false:=decide_eq_false h1;go_wp2_with fail;go_roundw
     case rel=>exact⟨k+1,by go_num,by omega,⟨⟨cs,HF3.out.take 2,HE.out⟩⟩⟩
     case measure=>simp[intOf];omega
   obtain⟨hok1,hok2⟩:=hok;obtain⟨j,rfl⟩:=zG (show 0<=xt by omega);have hj1:1<=j:=by omega
   have hj6:j<=6:=by omega
   obtain⟨hcj,hnx⟩:=QK HA.out HX.out rfl hj1 hj6;have HNX:=zZ hnx;have hbd:=OV t.sts k (j:Int);obtain⟨z,hz⟩:=nm (un (t.sts.take k) (j:Int));rw[<-hz]at hcj hbd HNX;obtain⟨hbd1,hbd2⟩:=hbd;have aj:w3.cell? ⟨w.heap.size+1,j,none⟩=some (B C z):=(HF3.out.at_ 1 rfl).cell hcj;have fj:=(HF3.out.at_ 1 rfl).froz j;have hd1:decide ((j:Int)≥1)=true:=decide_eq_true hok1;have hd2:decide ((j:Int)<=6)=true:=decide_eq_true hok2;clear hcj hnx hz HX HA;go_wp2_with fail;have hF4:=HF3.out.set 1 rfl j (B C (z+1));go_roundw
   case rel=>exact⟨k+1,by go_num,by omega,⟨⟨_,hF4.take 2,HNX.out⟩⟩⟩
   case measure=>simp[intOf];omega
  ·obtain rfl:k=nS:=by omega
   have HE:=zZ (Qk HA.out HL.out);have HI:Bx (ak p wr (D (some ⟨w.heap.size+1,0,none⟩) 7 7) (NB t.sts)):=⟨Qx (HFr.out.at_ 1 rfl) (by omega) HE.out (QD HN.out) (by unfold NB;simp)⟩
   go_wp2_with fail;go_ret
   exact⟨⟨_,rfl,HI.out⟩,HFr.out.xt⟩
set_option maxRecDepth 100000 in
set_option maxHeartbeats 16000000 in
theorem Mo(v0:Value)(l0:List Int)(w:World)(h0:ak w.heap.size w v0 l0)(hT:cK w) :
  Calls prog 5 #[v0] w fun e w'=>e=.returned (.bool true)/\ab w w':=by
 have H0:=zZ h0;have HB:=zZ hT;clear h0 hT;go_enter func5,ntmps5
 go_wp2_with fail;refine (ib _ l0 _ H0.out).mono ?_;rintro e w1 ⟨rfl,HT1,HE1⟩;have HE:=zZ HE1;have HF1:Bx (LF w.heap.size w1 w1 []):=⟨LF.start HT1 (HB.out.ext HE1) HB.out.lt⟩
 clear HT1 HE1;go_wp2_with fail;refine (dp _ 0 _ HF1.out.fr.tp (by omega) (by omega)).mono ?_;rintro e w2 ⟨v2,rfl,⟨s,hsv,hwf,hok⟩,HT2,HX2⟩;have hs2:=hsv.isSit hwf HF1.out.fr.hp;have HWF:=zZ hwf;obtain⟨AP,nP,cP,AB,nB,cB,AX,nX,cX,rfl⟩:=hs2.op;have HOK:=zZ (hok rfl);obtain⟨gS,hgS⟩:∃z,z=w2.heap.size:=⟨_,rfl⟩
 obtain⟨w3,hw3⟩:∃z:World,z=(w2.alloc (.cells #[B C s.num,D AP nP cP,D AB nB cB,D AX nX cX] 29)):=⟨_,rfl⟩
 have HF3:Bx (LF w.heap.size w1 w3 [(gS,#[B C s.num,D AP nP cP,D AB nB cB,D AX nX cX],29)]):=⟨by rw[hw3];exact (HF1.out.step HX2 HT2).push _ _ hgS.symm⟩
 have HS3:Bx (aR w.heap.size w3 (.agg #[B C s.num,D AP nP cP,D AB nB cB,D AX nX cX]) s):=⟨by rw[hw3];exact hs2.ext ((zE _).alloc _)⟩
 clear hs2 hsv hwf hok;go_upto_region 3 with (fail)
 rw[<-hw3,<-hgS];clear hw3 hgS HT2 HX2 HF1;have z0:=(HF3.out.at_ 0 rfl).cell (i:=0) rfl;have z1:=(HF3.out.at_ 0 rfl).cell (i:=1) rfl;have z2:=(HF3.out.at_ 0 rfl).cell (i:=2) rfl;have z3:=(HF3.out.at_ 0 rfl).cell (i:=3) rfl;go_upto_region 3 with (fail)
 obtain⟨bs,hbs⟩:∃z,z=w3.heap.size:=⟨_,rfl⟩
 have HBS:Bx (w.heap.size<bs/\w1.heap.size<=bs/\bs<=w3.heap.size):=⟨by have h1:=HF3.out.lt;have h2:=HF3.out.fr.xt.size;omega⟩
 clear z0 z1 z2 z3;refine px 7 (fun w'=>Bk w' gS #[B C s.num,D AP nP cP,D AB nB cB,D AX nX cX] 29) (by kernel_rfl) ?_;have kS:(fun w'=>Bk w' gS #[B C s.num,D AP nP cP,D AB nB cB,D AX nX cX] 29) w3.drew:=(HF3.out.at_ 0 rfl).ext (zE _).drew;have kD:ab w3 w3.drew:=(zE _).drew;obtain⟨wd,hwd⟩:∃z:World,z=w3.drew:=⟨_,rfl⟩
 rw[<-hwd]at kS kD⊢;clear hwd;have HF4:Bx (LF w.heap.size w1 wd [(gS,#[B C s.num,D AP nP cP,D AB nB cB,D AX nX cX],29)]):=⟨HF3.out.ext kD⟩
 have HS4:Bx (aR w.heap.size wd (.agg #[B C s.num,D AP nP cP,D AB nB cB,D AX nX cX]) s):=⟨HS3.out.ext kD⟩
 have HB4:Bx (bs<=wd.heap.size):=⟨by rw[hbs];exact kD.size⟩
 have HX4:Bx (XT w.heap.size w3 wd):=⟨kD.xt⟩
 clear kD;refine ur 4 [(0,24),(1,25),(3,27),(4,28)] rfl (by kernel_rfl) (by kernel_rfl) (fun _ _ _ _ _ h=>h) kS ?_;iterate 4 (apply Ff;(case ho=>exact rfl);(case hw=>exact rfl);(case hy=>((intro wk hk);(try dsimp only at hk);have z0:=hk.cell (i:=0) rfl;have z1:=hk.cell (i:=1) rfl;have z2:=hk.cell (i:=2) rfl;have z3:=hk.cell (i:=3) rfl;go_simp;try with_reducible rfl));(case hput=>(simp only[Act.put,List.setIfInBounds_toArray,List.set_cons_zero,List.set_cons_succ];exact rfl)))
 refine Lh ?_;refine Cw 2 (by kernel_rfl) rfl (fun K hK=>?_);go_simp;refine (E2 _ _ s _ HF4.out.fr.tp HS4.out HOK.out).mono ?_;rintro e w5 ⟨v5,rfl,⟨ys,hrow,hwho⟩,HT5,hX5⟩;have hy60:ys.length<=60:=by have:=IE hwho HWF.out;simpa using this
 have HL5:Bx (Cr w.heap.size bs w5 v5 ys):=⟨Cr.of_row (hrow.base_ HB4.out) HBS.out.1⟩
 have HF5:Bx (LF w.heap.size w1 w5 [(gS,#[B C s.num,D AP nP cP,D AB nB cB,D AX nX cX],29)]):=⟨HF4.out.step hX5 HT5⟩
 have HS5:Bx (aR w.heap.size w5 (.agg #[B C s.num,D AP nP cP,D AB nB cB,D AX nX cX]) s):=⟨HS4.out.xt hX5⟩
 have HB5:Bx (bs<=w5.heap.size):=⟨by have:=HB4.out;have:=hX5.size;omega⟩
 have HX5:Bx (XT w.heap.size w3 w5):=⟨HX4.out.trans hX5⟩
 have k5:=HF5.out.at_ 0 rfl;clear hrow hwho HT5 hX5 HF4 HS4 HB4 HX4;refine hK.out _ _ (fun _=>k5) ?_;clear hK K;try simp only[Act.put,List.setIfInBounds_toArray,M5,List.set_cons_succ]
 refine Cw 5 (by kernel_rfl) rfl (fun K hK=>?_);go_simp;refine (dP _ _ s 6 _ HF5.out.fr.tp HS5.out HWF.out (by omega)).mono ?_;rintro e w6 ⟨v6,rfl,⟨zs,hrow,hzl⟩,HT6,hX6⟩;have HZ6:Bx (bj w.heap.size 13 (Lq bs) w6 v6 zs):=⟨(hrow.base_ HB5.out).rdC HBS.out.1⟩
 obtain⟨Az,cz,rfl⟩:=hrow.form;have HL6:Bx (Cr w.heap.size bs w6 v5 ys):=⟨HL5.out.xt hX6 HBS.out.1⟩
 have HF6:Bx (LF w.heap.size w1 w6 [(gS,#[B C s.num,D AP nP cP,D AB nB cB,D AX nX cX],29)]):=⟨HF5.out.step hX6 HT6⟩
 have HS6:Bx (aR w.heap.size w6 (.agg #[B C s.num,D AP nP cP,D AB nB cB,D AX nX cX]) s):=⟨HS5.out.xt hX6⟩
 have HB6:Bx (bs<=w6.heap.size):=⟨by have:=HB5.out;have:=hX6.size;omega⟩
 have HX6:Bx (XT w.heap.size w3 w6):=⟨HX5.out.trans hX6⟩
 have k6:=HF6.out.at_ 0 rfl;obtain⟨nz,hnz⟩:∃z,z=zs.length:=⟨_,rfl⟩
 rw[<-hnz]at HZ6 hzl⊢;have HNZ:=zZ hnz;clear hrow HT6 hX6 HF5 HS5 HB5 HX5 HL5 k5 hnz;refine hK.out _ _ (fun _=>k6) ?_;clear hK K;try simp only[Act.put,List.setIfInBounds_toArray,M5,List.set_cons_succ]
 refine Cw 6 (by kernel_rfl) rfl (fun K hK=>?_);obtain⟨v7,w7,hrun,⟨row,hg7,hr7,hq7⟩,hl7⟩:=NQ 31 HL6.out HZ6.out HBS.out.1 HB6.out (by omega);refine t8 (by rfl) _ _ _ (by rfl) (by rfl) (by rfl) hrun ?_;have HF7:Bx (LF w.heap.size w1 w7 [(gS,#[B C s.num,D AP nP cP,D AB nB cB,D AX nX cX],29)]):=⟨HF6.out.grown hg7 (fun k x hk=>hq7 x.1 x.2.1 x.2.2 (HF6.out.at_ k hk) (by match k,hk with|0,hk=>(simp at hk;subst hk;simp only;decide))) (fun k hk=>by have:=hr7 k hk;have:=HBS.out.2.1;omega)⟩
 have HS7:Bx (aR w.heap.size w7 (.agg #[B C s.num,D AP nP cP,D AB nB cB,D AX nX cX]) s):=⟨HS3.out.xt (HX6.out.grown hg7 (fun k hk=>by have:=hr7 k hk;have:=HBS.out.2.2;omega))⟩
 have HL7:Bx (bj w.heap.size 13 (Mv w.heap.size) w7 v7 (ys++zs)/\(ys++zs).length<=100):=⟨hl7.rdI HBS.out.1,by rw[yU,<-HNZ.out];omega⟩
 have k7:=HF7.out.at_ 0 rfl;clear hrun hg7 hr7 hq7 hl7 HF6 HS6 HB6 HX6 HL6 HZ6 k6 HBS hbs;change K (Act.put _ (some 30) _) w7;refine hK.out _ _ (fun _=>k7) ?_;clear hK K;try simp only[Act.put,List.setIfInBounds_toArray,M5,List.set_cons_succ]
 refine Cw 7 (by kernel_rfl) rfl (fun K hK=>?_);go_simp;refine hK.out _ _ (fun h=>absurd rfl h) ?_;clear hK K;refine zcw (by kernel_rfl) ?_ _;clear k7 HF3 HS3 HNZ;go_upto_block 0 with (go_at_call 18;refine (am _ 4 _ HF7.out.fr.tp (by omega)).mono ?_;rintro e w8 ⟨v8,rfl,⟨q,rfl,hq1,hq2⟩,HT8,HX8⟩)
 have HF8:Bx (LF w.heap.size w1 w8 [(gS,#[B C s.num,D AP nP cP,D AB nB cB,D AX nX cX],29)]):=⟨HF7.out.step HX8 HT8⟩
 have HS8:Bx (aR w.heap.size w8 (.agg #[B C s.num,D AP nP cP,D AB nB cB,D AX nX cX]) s):=⟨HS7.out.xt HX8⟩
 have HL8:Bx (bj w.heap.size 13 (Mv w.heap.size) w8 v7 (ys++zs)/\(ys++zs).length<=100):=⟨bj.xt HL7.out.1 (Mv.stab _) HX8,HL7.out.2⟩
 obtain⟨q0,rfl⟩:=zG hq1;have hq3:q0<=3:=by omega
 clear HT8 HX8 HF7 HS7 HL7 hq1 hq2;go_cut [5] (fun s5 wx=>∃xs:List (aj×Value),Bx (LF w.heap.size w1 wx [(gS,#[B C s.num,D AP nP cP,D AB nB cB,D AX nX cX],29)]/\aR w.heap.size wx (.agg #[B C s.num,D AP nP cP,D AB nB cB,D AX nX cX]) s/\bj w.heap.size 13 (Mv w.heap.size) wx s5 xs/\xs.length<=100))
 case first =>
  go_wp2_with fail;go_loopw [5,6] (fun s5 s6 wr=>∃(i:Nat) (xs:List (aj×Value)),s6=B C i/\i<=3/\Bx (LF w.heap.size w1 wr [(gS,#[B C s.num,D AP nP cP,D AB nB cB,D AX nX cX],29)]/\aR w.heap.size wr (.agg #[B C s.num,D AP nP cP,D AB nB cB,D AX nX cX]) s/\bj w.heap.size 13 (Mv w.heap.size) wr s5 xs/\xs.length<=100)) (fun _ i _=>(intOf i).toNat)
  case atStart=>exact⟨q0,ys++zs,rfl,hq3,⟨⟨HF8.out,HS8.out,HL8.out.1,HL8.out.2⟩⟩⟩
  case round =>
   obtain⟨i,xs,rfl,hi,HR⟩:=hrel;obtain⟨A7,c7,hu⟩:∃A c,u5=D A xs.length c:=by obtain⟨A,c,hv,_⟩:=HR.out.2.2.1;exact⟨A,c,hv⟩
   obtain⟨nl,hm⟩:∃z,z=xs.length:=⟨_,rfl⟩
   rw[<-hm]at hu;have HFr:Bx (LF w.heap.size w1 wr [(gS,#[B C s.num,D AP nP cP,D AB nB cB,D AX nX cX],29)]):=⟨HR.out.1⟩
   have HSr:Bx (aR w.heap.size wr (.agg #[B C s.num,D AP nP cP,D AB nB cB,D AX nX cX]) s):=⟨HR.out.2.1⟩
   have HLr:Bx (bj w.heap.size 13 (Mv w.heap.size) wr (D A7 nl c7) xs):=⟨by rw[<-hu];exact HR.out.2.2.1⟩
   have hm60:nl<=100:=by rw[hm];exact HR.out.2.2.2
   subst hu;have HM:=zZ hm;clear HR HF8 HS8 HL8 hm;by_cases hc:0<i/\0<nl
   ·obtain⟨hi0,hm0⟩:=hc;go_upto_region 8 with (go_at_call 18;refine (am _ nl _ HFr.out.fr.tp (by omega)).mono ?_;rintro e w9 ⟨v9,rfl,⟨t,rfl,ht1,ht2⟩,HT9,HX9⟩)
    obtain⟨j,rfl⟩:=zG ht1;have hjn:j<nl:=by omega
    have HF9:Bx (LF w.heap.size w1 w9 [(gS,#[B C s.num,D AP nP cP,D AB nB cB,D AX nX cX],29)]):=⟨HFr.out.step HX9 HT9⟩
    have HS9:Bx (aR w.heap.size w9 (.agg #[B C s.num,D AP nP cP,D AB nB cB,D AX nX cX]) s):=⟨HSr.out.xt HX9⟩
    have hl9:=bj.xt HLr.out (Mv.stab _) HX9;obtain⟨bC,oC,rfl⟩:∃b o,A7=some ⟨b,o,none⟩:=by obtain⟨A',c',e',h9,h8,h4⟩:=hl9;cases e';obtain⟨b,off,cs,ha,_⟩:=h4 0 xs[0] (zV (by have:=HM.out;omega));exact⟨b,off,ha⟩
    have hmx:(nl:Int)<=(c7:Int):=by obtain⟨A',c',e',h9,h8,h4⟩:=hl9;cases e';have:=HM.out;omega
    have HL9:Bx (bj w.heap.size 13 (Mv w.heap.size) w9 (D (some ⟨bC,oC,none⟩) nl c7) xs):=⟨hl9⟩
    clear HFr HSr HLr HT9 HX9 ht1 ht2 hl9;have hjx:(j:Int)<=(c7:Int):=by omega
    have hwj:IntKind.i64.wrap ((j:Int)+1)=((j+1:Nat):Int):=by rw[yN _ (by omega)];omega
    have hjm1:(((j+1:Nat):Int)<=(nl:Int))=True:=eq_true (by omega);have hjm2:(0<=(j:Int)+1/\(j:Int)+1<=(nl:Int))=True:=eq_true (by omega);have hjm3:(j:Int)+1<=(nl:Int):=by omega
    have hjm4:0<=(j:Int)+1:=by omega
    obtain⟨ii,hii⟩:∃z,z=i-1:=⟨_,rfl⟩
    have HII:=zZ hii;clear hii;refine px 9 (fun _=>True) (by kernel_rfl) ?_;have kS:(fun _=>True) w9.drew:=trivial;have kD:ab w9 w9.drew:=(zE _).drew;obtain⟨we,hwe⟩:∃z:World,z=w9.drew:=⟨_,rfl⟩
    rw[<-hwe]at kS kD⊢;clear hwe;have HFe:Bx (LF w.heap.size w1 we [(gS,#[B C s.num,D AP nP cP,D AB nB cB,D AX nX cX],29)]):=⟨HF9.out.ext kD⟩
    have HSe:Bx (aR w.heap.size we (.agg #[B C s.num,D AP nP cP,D AB nB cB,D AX nX cX]) s):=⟨HS9.out.ext kD⟩
    have HLe:Bx (bj w.heap.size 13 (Mv w.heap.size) we (D (some ⟨bC,oC,none⟩) nl c7) xs):=⟨bj.ext HL9.out (Mv.stab _) kD⟩
    clear HF9 HS9 HL9 kD;refine ur 8 [(0,46),(1,47),(2,48),(3,49),(4,50),(5,51),(6,52),(7,53)] rfl (by kernel_rfl) (by kernel_rfl) (fun _ _ _ _ _ h=>h) kS ?_;iterate 8 (apply Ff;(case ho=>exact rfl);(case hw=>exact rfl);(case hy=>((intro wk hk);(try dsimp only at hk);skip;go_simp;try with_reducible rfl));(case hput=>(simp only[Act.put,List.setIfInBounds_toArray,List.set_cons_zero,List.set_cons_succ];exact rfl)))
    refine Lh ?_;obtain⟨BD,hBD⟩:∃z:Option Addr,z=if c7=j+1 then some ⟨bC,oC,none⟩ else some ⟨bC,oC+(j+1)*13,none⟩:=⟨_,rfl⟩
    rw[<-hBD];refine Cw 8 (by kernel_rfl) rfl (fun K hK=>?_);obtain⟨vz,wz,hrun,hxz,hlz⟩:=NH HLe.out hBD HFe.out.lt hjn (by omega);refine t8 (by rfl) _ _ _ (by rfl) (by rfl) (by rfl) hrun ?_;have HFz:Bx (LF w.heap.size w1 wz [(gS,#[B C s.num,D AP nP cP,D AB nB cB,D AX nX cX],29)]):=⟨HFe.out.ext hxz⟩
    have HSz:Bx (aR w.heap.size wz (.agg #[B C s.num,D AP nP cP,D AB nB cB,D AX nX cX]) s):=⟨HSe.out.ext hxz⟩
    have HLz:Bx (bj w.heap.size 13 (Mv w.heap.size) wz vz (xs.take j++xs.drop (j+1))/\(xs.take j++xs.drop (j+1)).length<=100):=⟨hlz,by rw[yU,yW,wD];have:=HM.out;omega⟩
    change K (Act.put _ (some 54) _) wz;refine hK.out _ _ (fun _=>trivial) ?_;clear hK K;try simp only[Act.put,List.setIfInBounds_toArray,M5,List.set_cons_succ]
    refine Cw 9 (by kernel_rfl) rfl (fun K hK=>?_);go_simp;refine hK.out _ _ (fun h=>absurd rfl h) ?_;clear hK K;refine zcw (by kernel_rfl) ?_ _;clear kS hrun hxz hlz HFe HSe HLe;go_wp2_with fail;go_roundw
    case rel=>exact⟨ii,_,by have:=HII.out;go_num,by have:=HII.out;omega,⟨⟨HFz.out,HSz.out,HLz.out.1,HLz.out.2⟩⟩⟩
    case measure=>simp[intOf];omega
   ·by_cases hi0:0<i
    ·obtain rfl:nl=0:=by omega
     go_wp2_with fail;go_meet
     exact⟨xs,⟨⟨HFr.out,HSr.out,HLr.out,by have:=HM.out;omega⟩⟩⟩
    ·obtain rfl:i=0:=by omega
     go_wp2_with fail;go_meet
     exact⟨xs,⟨⟨HFr.out,HSr.out,HLr.out,by have:=HM.out;omega⟩⟩⟩
 case rest =>
 obtain⟨xs,HC⟩:=hcut;have HC9:Bx (au w.heap.size wc u5 (xs.map Prod.fst)/\(xs.map Prod.fst).length<=300):=⟨Mv.cs HC.out.2.2.1,by rw[zJ];have:=HC.out.2.2.2;omega⟩
 have HF9:Bx (LF w.heap.size w1 wc [(gS,#[B C s.num,D AP nP cP,D AB nB cB,D AX nX cX],29)]):=⟨HC.out.1⟩
 have HS9:Bx (aR w.heap.size wc (.agg #[B C s.num,D AP nP cP,D AB nB cB,D AX nX cX]) s):=⟨HC.out.2.1⟩
 obtain⟨Al,nl,cl_,rfl,-⟩:=HC9.out.1.open_;obtain⟨w9,rfl⟩:∃z,z=wc:=⟨_,rfl⟩
 obtain⟨cl,hcl⟩:∃z,z=xs.map Prod.fst:=⟨_,rfl⟩
 rw[<-hcl]at HC9;obtain⟨t,ht⟩:∃z,z=cQ s (ay cl):=⟨_,rfl⟩
 have hck:aC s=0:=iL.2 HOK.out;have hsl:=NZ s cl HC9.out.2;have hac:=QX s cl;rw[if_pos hck,<-ht]at hsl hac;have HTT:Bx (rM s cl=t):=⟨by rw[ht];exact if_pos hck⟩
 have HBL:Bx (gq s t=true):=⟨by rw[ht];exact OQ HOK.out cl⟩
 have HCK:=zZ hck;obtain⟨ns,hns⟩:∃z,z=t.sts.length:=⟨_,rfl⟩
 obtain⟨ng,hng⟩:∃z,z=t.pgs.length:=⟨_,rfl⟩
 rw[<-hns,<-hng]at hsl;have hg300:ng<=300:=hsl.2;have HTL:Bx (t.sts.length=ns/\t.pgs.length=ng):=⟨⟨hns.symm,hng.symm⟩⟩
 have HNN:=zZ hsl;have HUS:Bx (un t.sts 1=(ng:Int)):=⟨by rw[hng,<-hac.2];rfl⟩
 clear hcl ht hck hsl hac hns hng HC;have z0:=(HF9.out.at_ 0 rfl).cell (i:=0) rfl;have z1:=(HF9.out.at_ 0 rfl).cell (i:=1) rfl;have z2:=(HF9.out.at_ 0 rfl).cell (i:=2) rfl;have z3:=(HF9.out.at_ 0 rfl).cell (i:=3) rfl;go_wp2_with fail;refine (aW _ _ s cl _ HF9.out.lt HF9.out.tb HS9.out HC9.out.1 HC9.out.2).mono ?_;rintro e wb ⟨⟨vI,rfl,hI⟩,hxs⟩;rw[HTT.out]at hI;rw[HCK.out];obtain⟨AS,cS,AG,cG,rfl⟩:=hI.op;rw[HTL.out.1,HTL.out.2]at hI⊢;obtain⟨gI,hgI⟩:∃z,z=wb.heap.size:=⟨_,rfl⟩
 obtain⟨w10,hw10⟩:∃z:World,z=(wb.alloc (.cells #[D AS ns cS,D AG ng cG] 45)):=⟨_,rfl⟩
 have hx10:ab w9 w10:=by rw[hw10];exact hxs.alloc _
 have HF10:Bx (LF w.heap.size w1 w10 [(gS,#[B C s.num,D AP nP cP,D AB nB cB,D AX nX cX],29),(gI,#[D AS ns cS,D AG ng cG],45)]):=⟨by rw[hw10];exact (HF9.out.ext hxs).push _ _ hgI.symm⟩
 have HI10:Bx (aK w.heap.size w10 (.agg #[D AS ns cS,D AG ng cG]) t):=⟨by rw[hw10];exact hI.ext ((zE _).alloc _)⟩
 have HS10:Bx (aR w.heap.size w10 (.agg #[B C s.num,D AP nP cP,D AB nB cB,D AX nX cX]) s):=⟨HS9.out.ext hx10⟩
 go_upto_region 10 with (fail)
 rw[<-hw10,<-hgI];clear hw10 hgI hI hxs hx10 HF9 HS9 HC9 z0 z1 z2 z3;go_wp2_with fail;refine (Mx _ 0 _ HF10.out.fr.tp (by omega) (by omega)).mono ?_;rintro e w11 ⟨v11,rfl,⟨td,tf,tl,rfl,-,-,-,hthr⟩,HT11,HX11⟩;have HVD:Bx (j5 td tf tl=true):=⟨OU (hthr rfl)⟩
 obtain⟨gH,hgH⟩:∃z,z=w11.heap.size:=⟨_,rfl⟩
 obtain⟨w12,hw12⟩:∃z:World,z=(w11.alloc (.cells #[B C td,B C tf,B C tl] 53)):=⟨_,rfl⟩
 have HF12:Bx (LF w.heap.size w1 w12 [(gS,#[B C s.num,D AP nP cP,D AB nB cB,D AX nX cX],29),(gI,#[D AS ns cS,D AG ng cG],45),(gH,#[B C td,B C tf,B C tl],53)]):=⟨by rw[hw12];exact (HF10.out.step HX11 HT11).push _ _ hgH.symm⟩
 have hx12:XT w.heap.size w10 w12:=by rw[hw12];exact HX11.alloc _
 have HS12:Bx (aR w.heap.size w12 (.agg #[B C s.num,D AP nP cP,D AB nB cB,D AX nX cX]) s):=⟨HS10.out.xt hx12⟩
 have HI12:Bx (aK w.heap.size w12 (.agg #[D AS ns cS,D AG ng cG]) t):=⟨HI10.out.xt hx12⟩
 go_upto_region 11 with (fail)
 rw[<-hw12,<-hgH];clear hw12 hgH HT11 HX11 hx12 hthr HF10 HS10 HI10;have hbn:ns<=1000/\ng<=1000:=by have:=HNN.out;omega
 have hst:=MG (.agg #[B C s.num,D AP nP cP,D AB nB cB,D AX nX cX]) (.agg #[D AS ns cS,D AG ng cG]) s t w12 HF12.out.lt HS12.out HI12.out (by rw[HTL.out.1];exact hbn.1) (by rw[HTL.out.2];exact hbn.2);rw[if_pos HBL.out,if_pos HBL.out]at hst;have HST:=zZ hst;clear hst;have z0:=(HF12.out.at_ 0 rfl).cell (i:=0) rfl;have z1:=(HF12.out.at_ 0 rfl).cell (i:=1) rfl;have z2:=(HF12.out.at_ 0 rfl).cell (i:=2) rfl;have z3:=(HF12.out.at_ 0 rfl).cell (i:=3) rfl;have i0:=(HF12.out.at_ 1 rfl).cell (i:=0) rfl;have i1:=(HF12.out.at_ 1 rfl).cell (i:=1) rfl;go_wp2_with fail;refine HST.out.mono ?_;rintro e w13 ⟨⟨va,zs,rfl,hra,hya⟩,hx13⟩;obtain⟨Aa,ca,rfl⟩:=hra.form;have hA:bj w.heap.size 3 (MW w.heap.size) w13 (D Aa zs.length ca) (s.xp.map (gt s t)):=by rw[<-hya];exact hra.isS HF12.out.lt
 obtain⟨vP,vB,vX,hag,-,-,hX,-⟩:=HS12.out;obtain⟨rfl,rfl,rfl⟩:vP=D AP nP cP/\vB=D AB nB cB/\vX=D AX nX cX:=by injection hag with hag;injection hag with hag;injection hag with _ hag;injection hag with e1 hag;injection hag with e2 hag;injection hag with e3 _;exact⟨e1.symm,e2.symm,e3.symm⟩
 have hzl:zs.length=nX:=by have h1:=hA.len;have h2:=hX.len;rw[zJ]at h1;omega
 have hnX:nX<=60:=by have:=HOK.out.len;have:=hX.len;omega
 rw[hzl]at hA⊢;have HA13:=zZ hA;have HX13:Bx (jh w.heap.size w13 (D AX nX cX) s.xp):=⟨bj.ext hX (lR.stab _) hx13⟩
 have HF13:Bx (LF w.heap.size w1 w13 [(gS,#[B C s.num,D AP nP cP,D AB nB cB,D AX nX cX],29),(gI,#[D AS ns cS,D AG ng cG],45),(gH,#[B C td,B C tf,B C tl],53)]):=⟨HF12.out.ext hx13⟩
 have HS13:Bx (aR w.heap.size w13 (.agg #[B C s.num,D AP nP cP,D AB nB cB,D AX nX cX]) s):=⟨HS12.out.ext hx13⟩
 have HI13:Bx (aK w.heap.size w13 (.agg #[D AS ns cS,D AG ng cG]) t):=⟨HI12.out.ext hx13⟩
 clear hag hX hA hra hya hzl hx13 HF12 HS12 HI12 HST z0 z1 z2 z3 i0 i1;have hst:=MD (.agg #[B C s.num,D AP nP cP,D AB nB cB,D AX nX cX]) (.agg #[D AS ns cS,D AG ng cG]) s t td tf tl w13 HF13.out.lt HS13.out HI13.out (by rw[HTL.out.1];exact hbn.1) (by rw[HTL.out.2];exact hbn.2);obtain⟨q1,q2⟩:=Q9 HBL.out HVD.out;rw[q1,q2]at hst;have HST:=zZ hst;clear hst q1 q2;have z0:=(HF13.out.at_ 0 rfl).cell (i:=0) rfl;have z1:=(HF13.out.at_ 0 rfl).cell (i:=1) rfl;have z2:=(HF13.out.at_ 0 rfl).cell (i:=2) rfl;have z3:=(HF13.out.at_ 0 rfl).cell (i:=3) rfl;have i0:=(HF13.out.at_ 1 rfl).cell (i:=0) rfl;have i1:=(HF13.out.at_ 1 rfl).cell (i:=1) rfl;have h0:=(HF13.out.at_ 2 rfl).cell (i:=0) rfl;have h1:=(HF13.out.at_ 2 rfl).cell (i:=1) rfl;have h2:=(HF13.out.at_ 2 rfl).cell (i:=2) rfl;go_wp2_with fail;refine HST.out.mono ?_;rintro e w14 ⟨⟨va,zs,rfl,hra,hya⟩,hx14⟩;have HRW:Bx (Me w.heap.size w14 va (ut s t td tf tl)):=⟨by rw[<-hya];exact hra.isS HF13.out.lt⟩
 obtain⟨AV,nV,cV,rfl,-⟩:=HRW.out.open_;have HVL:Bx ((ut s t td tf tl).length=nV):=⟨HRW.out.len⟩
 have hnV:nV<=60:=by have h1:=HVL.out;unfold ut at h1;rw[zJ]at h1;have h2:=uP (cj s t) s.xp;have h3:=HOK.out.len;omega
 have HF14:Bx (LF w.heap.size w1 w14 [(gS,#[B C s.num,D AP nP cP,D AB nB cB,D AX nX cX],29),(gI,#[D AS ns cS,D AG ng cG],45),(gH,#[B C td,B C tf,B C tl],53)]):=⟨HF13.out.ext hx14⟩
 have HS14:Bx (aR w.heap.size w14 (.agg #[B C s.num,D AP nP cP,D AB nB cB,D AX nX cX]) s):=⟨HS13.out.ext hx14⟩
 have HI14:Bx (aK w.heap.size w14 (.agg #[D AS ns cS,D AG ng cG]) t):=⟨HI13.out.ext hx14⟩
 have HA14:Bx (bj w.heap.size 3 (MW w.heap.size) w14 (D Aa nX ca) (s.xp.map (gt s t))):=⟨bj.ext HA13.out (MW.stab _) hx14⟩
 have HX14:Bx (jh w.heap.size w14 (D AX nX cX) s.xp):=⟨bj.ext HX13.out (lR.stab _) hx14⟩
 clear hra hya hx14 HF13 HS13 HI13 HA13 HX13 HST z0 z1 z2 z3 i0 i1 h0 h1 h2;have i0:=(HF14.out.at_ 1 rfl).cell (i:=0) rfl;have i1:=(HF14.out.at_ 1 rfl).cell (i:=1) rfl;go_wp2_with fail;refine (NK _ t _ (p:=w.heap.size) HF14.out.lt HI14.out (by rw[HTL.out.1];omega)).mono ?_;rintro e w15 ⟨⟨va,rfl,hra⟩,hx15⟩;obtain⟨An,nn,cn,rfl,-⟩:=hra.open_;obtain rfl:nn=7:=by have:=hra.len;simpa[NB] using this.symm
 obtain⟨bn,on,xn,rfl,hn1,HXN,-,-⟩:=hra.at_ (k:=1) (by omega);obtain rfl:xn=(ng:Int):=by have h:=HXN.out;unfold NB at h;simp only[List.getElem?_cons_succ,List.getElem?_cons_zero,Option.some.injEq]at h;rw[<-h];exact HUS.out
 have HN15:Bx (w15.cell? ⟨bn,on+1,none⟩=some (B C (ng:Int))):=⟨hn1⟩
 have HF15:Bx (LF w.heap.size w1 w15 [(gS,#[B C s.num,D AP nP cP,D AB nB cB,D AX nX cX],29),(gI,#[D AS ns cS,D AG ng cG],45),(gH,#[B C td,B C tf,B C tl],53)]):=⟨HF14.out.ext hx15⟩
 have HS15:Bx (aR w.heap.size w15 (.agg #[B C s.num,D AP nP cP,D AB nB cB,D AX nX cX]) s):=⟨HS14.out.ext hx15⟩
 have HI15:Bx (aK w.heap.size w15 (.agg #[D AS ns cS,D AG ng cG]) t):=⟨HI14.out.ext hx15⟩
 have HA15:Bx (bj w.heap.size 3 (MW w.heap.size) w15 (D Aa nX ca) (s.xp.map (gt s t))):=⟨bj.ext HA14.out (MW.stab _) hx15⟩
 have HX15:Bx (jh w.heap.size w15 (D AX nX cX) s.xp):=⟨bj.ext HX14.out (lR.stab _) hx15⟩
 have HR15:Bx (Me w.heap.size w15 (D AV nV cV) (ut s t td tf tl)):=⟨bj.ext HRW.out (Pp.stab _) hx15⟩
 clear hra hx15 hn1 HXN HF14 HS14 HI14 HA14 HX14 HRW i0 i1 HUS HVD HTT HCK;have hst:=Nu (.agg #[B C s.num,D AP nP cP,D AB nB cB,D AX nX cX]) (.agg #[D AS ns cS,D AG ng cG]) (D AV nV cV) s t (ut s t td tf tl) w15 HF15.out.lt HS15.out HI15.out HR15.out (by rw[HTL.out.1];exact hbn.1) (by rw[HTL.out.2];exact hbn.2) (by rw[HVL.out];omega);rw[Pn HBL.out]at hst;have HST:=zZ hst;clear hst;have z0:=(HF15.out.at_ 0 rfl).cell (i:=0) rfl;have z1:=(HF15.out.at_ 0 rfl).cell (i:=1) rfl;have z2:=(HF15.out.at_ 0 rfl).cell (i:=2) rfl;have z3:=(HF15.out.at_ 0 rfl).cell (i:=3) rfl;have i0:=(HF15.out.at_ 1 rfl).cell (i:=0) rfl;have i1:=(HF15.out.at_ 1 rfl).cell (i:=1) rfl;have n1:((nX:Int)!=(nX:Int))=false:=by simp
 go_wp2_with fail;refine HST.out.mono ?_;rintro e w16 ⟨rfl,hx16⟩;have HPG:Bx (Ce w.heap.size w16 (D AG ng cG) t.pgs):=⟨by obtain⟨_,_,e,-,h⟩:=HI15.out;obtain⟨-,rfl⟩:=Kw e;exact bj.ext h (lO.stab _) hx16⟩
 have HF16:Bx (LF w.heap.size w1 w16 [(gS,#[B C s.num,D AP nP cP,D AB nB cB,D AX nX cX],29),(gI,#[D AS ns cS,D AG ng cG],45),(gH,#[B C td,B C tf,B C tl],53)]):=⟨HF15.out.ext hx16⟩
 have HA16:Bx (bj w.heap.size 3 (MW w.heap.size) w16 (D Aa nX ca) (s.xp.map (gt s t))):=⟨bj.ext HA15.out (MW.stab _) hx16⟩
 have HX16:Bx (jh w.heap.size w16 (D AX nX cX) s.xp):=⟨bj.ext HX15.out (lR.stab _) hx16⟩
 have HR16:Bx (Me w.heap.size w16 (D AV nV cV) (ut s t td tf tl)):=⟨bj.ext HR15.out (Pp.stab _) hx16⟩
 have HN16:Bx (w16.cell? ⟨bn,on+1,none⟩=some (B C (ng:Int))):=⟨hx16.cell HN15.out⟩
 have HBE:Bx (KY s t):=⟨j7.1 HBL.out⟩
 have HXL:Bx (s.xp.length=nX):=⟨HX16.out.len⟩
 clear hx16 HF15 HS15 HI15 HA15 HX15 HR15 HN15 HST z0 z1 z2 z3 i0 i1 n1;go_wp2_with fail;go_loopw [16,17,18] (fun s16 s17 s18 wr=>∃i k q:Nat,s16=B C k/\s17=B C q/\s18=B C i/\i<=nX/\q<=300/\k<=60/\Bx (ab w16 wr/\k=MB s t i/\q=ME s t i)) (fun _ _ s18 _=>nX-(intOf s18).toNat)
 case atStart=>exact⟨0,0,0,rfl,rfl,rfl,by omega,by omega,by omega,⟨⟨zE _,rfl,rfl⟩⟩⟩
 case round =>
  obtain⟨i,k,q,rfl,rfl,rfl,hi,hq3,hk6,HR⟩:=hrel;obtain⟨wa,rfl⟩:∃z,z=wr:=⟨_,rfl⟩
  by_cases hin:i<nX
  ·obtain⟨ba,oa,_,_,rfl,-⟩:=HA16.out.at_ hin;obtain⟨bx,ox,_,_,rfl,-⟩:=HX16.out.at_ hin;obtain⟨y0,y1,ps,A1,n1,c1,HY,-,s0,s1,-⟩:=IsScs.rd HA16.out HR.out.1 hin;obtain⟨xc,xe,xv,HX,x0,-,-⟩:=jh.read HX16.out HR.out.1.xt hin;obtain⟨x,hx,hy0,hy1⟩:=QY HY.out;obtain rfl:x=⟨xc,xe,xv⟩:=by have h:=HX.out;rw[hx]at h;injection h
   obtain rfl:y0=xc:=hy0;have z3:=((HF16.out.at_ 0 rfl).ext HR.out.1).cell (i:=3) rfl;have n2:(y0 != y0)=false:=by simp
   have HD:=zZ hy1;have HXX:=zZ hx;clear hx hy1 HY HX;go_upto_region 20 with (fail)
   refine px 99 (fun w'=>ab wa w') (by kernel_rfl) ?_;have kS:ab wa wa.drew:=(zE _).drew;obtain⟨wd,hwd⟩:∃z:World,z=wa.drew:=⟨_,rfl⟩
   rw[<-hwd]at kS⊢;clear hwd;refine ur 12 [(0,114),(1,115),(2,116),(3,117),(4,118),(5,119),(6,120),(7,121),(8,122),(9,123),(10,124),(11,125)] rfl (by kernel_rfl) (by kernel_rfl) (fun _ _ _ _ _ h=>h) kS ?_;iterate 12 (apply Ff;(case ho=>exact rfl);(case hw=>exact rfl);(case hy=>((intro wk hk);(try dsimp only at hk);(replace s0:=hk.cell s0);(replace x0:=hk.cell x0);(replace z3:=hk.cell z3);(replace s1:=hk.cell s1);go_simp;try with_reducible rfl));(case hput=>(simp only[Act.put,List.setIfInBounds_toArray,List.set_cons_zero,List.set_cons_succ];exact rfl)))
   refine Lh ?_;refine zcw (by kernel_rfl) ?_ _;have HRD:Bx (ab w16 wd):=⟨HR.out.1.trans kS⟩
   have HKQ:Bx (k=MB s t i/\q=ME s t i):=⟨HR.out.2⟩
   replace s0:=kS.cell s0;replace s1:=kS.cell s1;clear kS x0 z3 n2 HR;by_cases hd:cj s t ⟨y0,xe,xv⟩=true
   ·obtain rfl:y1=1:=HD.out.2 hd;have hkV:k<nV:=by rw[HKQ.out.1,<-HVL.out];exact Qh HXX.out hd
    obtain⟨bv,ov,_,_,rfl,-⟩:=HR16.out.at_ hkV;obtain⟨b0,b1,b2,b3,b4,qs,an,A3,m3,c3,A4,m4,c4,HZ,hi3,-,-,-,d2,-,-,d5,-⟩:=Me.read HR16.out HRD.out hkV;have hsc:=P3 (d:=td) (f:=tf) (ld:=tl) HXX.out hd;rw[<-HKQ.out.1,HZ.out]at hsc;injection hsc with hsc;obtain⟨rfl,hqs⟩:b2=y0/\qs=(Mk s t td tf tl ⟨y0,xe,xv⟩).pgs:=by rw[<-hsc];exact⟨(congrArg Np.cand hsc),rfl⟩
    have hm3:q+m3=ME s t (i+1):=by rw[PP HXX.out hd,<-HKQ.out.2,<-Qe (d:=td) (f:=tf) (ld:=tl) HBL.out (x:=⟨b2,xe,xv⟩),<-hqs];have:=hi3.len;omega
    have hle:=OL HBE.out (i+1);rw[<-hm3,HTL.out.2]at hle;have hwq:IntKind.i64.wrap ((q:Int)+(m3:Int))=((q+m3:Nat):Int):=by rw[yN _ (by omega)];omega
    have hwk:IntKind.i64.wrap ((k:Int)+1)=((k+1:Nat):Int):=by rw[yN _ (by omega)];omega
    have hge:decide ((k:Int)≥(nV:Int))=false:=decide_eq_false (by omega);have hge1:decide ((nV:Int)<=(k:Int))=false:=decide_eq_false (by omega);have hge2:decide (nV<=k)=false:=decide_eq_false (by omega);have hge3:(nV<=k)=False:=eq_false (by omega);have n3:(b2 != b2)=false:=by simp
    have HM3:=zZ hm3;have HDD:=zZ hd;clear hsc hqs hi3 hm3 hd HZ HD;go_upto_region 23 with (fail)
    refine px 99 (fun w'=>ab wd w') (by kernel_rfl) ?_;have kS:ab wd wd.drew:=(zE _).drew;obtain⟨we,hwe⟩:∃z:World,z=wd.drew:=⟨_,rfl⟩
    rw[<-hwe]at kS⊢;clear hwe;refine ur 17 [(0,132),(1,133),(2,134),(3,135),(4,136),(5,137),(6,138),(7,139),(8,140),(9,141),(10,142),(11,143),(12,144),(13,145),(14,146),(15,147),(16,148)] rfl (by kernel_rfl) (by kernel_rfl) (fun _ _ _ _ _ h=>h) kS ?_;iterate 17 (apply Ff;(case ho=>exact rfl);(case hw=>exact rfl);(case hy=>((intro wk hk);(try dsimp only at hk);(replace s0:=hk.cell s0);(replace d2:=hk.cell d2);(replace d5:=hk.cell d5);go_simp;try with_reducible rfl));(case hput=>(simp only[Act.put,List.setIfInBounds_toArray,List.set_cons_zero,List.set_cons_succ];exact rfl)))
    refine Lh ?_;refine zcw (by kernel_rfl) ?_ _;replace d5:=kS.cell d5;have HRE:Bx (ab w16 we):=⟨HRD.out.trans kS⟩
    clear kS s0 s1 d2 n3 hge hge1 hge2 hge3;obtain⟨q2,hq2⟩:∃z,z=q+m3:=⟨_,rfl⟩
    obtain⟨k2,hk2⟩:∃z,z=k+1:=⟨_,rfl⟩
    rw[<-hq2]at hwq;rw[<-hk2]at hwk;have HQ2:Bx (q2=ME s t (i+1)):=⟨by rw[hq2];exact HM3.out⟩
    have HK2:Bx (k2=MB s t (i+1)):=⟨by rw[hk2,Py HXX.out HDD.out,<-HKQ.out.1]⟩
    have hq23:q2<=300:=by omega
    have hk26:k2<=60:=by omega
    clear hq2 hk2;go_wp2_with fail;go_roundw
    case rel=>exact⟨i+1,k2,q2,rfl,rfl,by go_num,by omega,hq23,hk26,⟨⟨HRE.out,HK2.out,HQ2.out⟩⟩⟩
    case measure=>simp[intOf];omega
   ·have hd':cj s t ⟨y0,xe,xv⟩=false:=by simpa using hd
    have hy1:y1≠1:=fun h=>hd (HD.out.1 h);have hyb:(y1==1)=false:=by simpa using hy1
    have HDD:=zZ hd';clear hd hd' hy1 HD;go_upto_region 22 with (fail)
    go_wp2_with fail;clear s1 hyb;obtain⟨w17,rfl⟩:∃z,z=wd:=⟨_,rfl⟩
    go_loopw [17,19] (fun s17 s19 wr=>∃j r:Nat,s17=B C r/\s19=B C j/\j<=ng/\r<=600/\Bx (ab w17 wr/\r=q+sL (t.pgs.take j) y0)) (fun _ s19 _=>ng-(intOf s19).toNat)
    case atStart=>exact⟨0,q,rfl,rfl,by omega,by omega,⟨⟨zE _,by simp[sL]⟩⟩⟩
    case round =>
     obtain⟨j,r,rfl,rfl,hj,hr6,HRJ⟩:=hrel;obtain⟨wj,rfl⟩:∃z,z=wr:=⟨_,rfl⟩
     have i1:=((HF16.out.at_ 1 rfl).ext (HRD.out.trans HRJ.out.1)).cell (i:=1) rfl;by_cases hjg:j<ng
     ·obtain⟨bp,op,_,_,rfl,-⟩:=HPG.out.at_ hjg;obtain⟨pc,pg,pt,pS,pQ,pch,pA,pm,pcc,HP,-,-,p0,-⟩:=Ce.read HPG.out (HRD.out.trans HRJ.out.1) hjg;replace s0:=HRJ.out.1.cell s0;have hcb:=Qq t.pgs y0 (j+1);rw[HTL.out.2]at hcb;by_cases hpc:pc=y0
      ·subst hpc;have h1:sL (t.pgs.take (j+1)) pc=sL (t.pgs.take j) pc+1:=PF HP.out rfl;have hr2:r+1=q+sL (t.pgs.take (j+1)) pc:=by rw[HRJ.out.2,h1];omega
       obtain⟨r2,hr2'⟩:∃z,z=r+1:=⟨_,rfl⟩
       have HR2:Bx (r2=q+sL (t.pgs.take (j+1)) pc):=⟨by omega⟩
       have hr26:r2<=600:=by omega
       have hwr:IntKind.i64.wrap ((r:Int)+1)=(r2:Int):=by rw[yN _ (by omega)];omega
       have n4:(pc==pc)=true:=by simp
       clear h1 hr2 hr2' hcb HP;go_upto_region 30 with (fail)
       refine px 99 (fun w'=>ab wj w') (by kernel_rfl) ?_;have kS:ab wj wj.drew:=(zE _).drew;obtain⟨we,hwe⟩:∃z:World,z=wj.drew:=⟨_,rfl⟩
       rw[<-hwe]at kS⊢;clear hwe;refine ur 12 [(0,166),(1,167),(2,168),(3,169),(4,170),(5,171),(6,172),(7,173),(8,174),(9,175),(10,176),(11,177)] rfl (by kernel_rfl) (by kernel_rfl) (fun _ _ _ _ _ h=>h) kS ?_;iterate 12 (apply Ff;(case ho=>exact rfl);(case hw=>exact rfl);(case hy=>((intro wk hk);(try dsimp only at hk);(replace s0:=hk.cell s0);(replace i1:=hk.cell i1);(replace p0:=hk.cell p0);go_simp;try with_reducible rfl));(case hput=>(simp only[Act.put,List.setIfInBounds_toArray,List.set_cons_zero,List.set_cons_succ];exact rfl)))
       refine Lh ?_;refine zcw (by kernel_rfl) ?_ _;have HRE:Bx (ab w17 we):=⟨HRJ.out.1.trans kS⟩
       clear kS i1 p0 n4;go_wp2_with fail;go_roundw
       case rel=>exact⟨j+1,r2,rfl,by go_num,by omega,hr26,⟨⟨HRE.out,HR2.out⟩⟩⟩
       case measure=>simp[intOf];omega
      ·have h1:=Qf HP.out hpc;have HR2:Bx (r=q+sL (t.pgs.take (j+1)) y0):=⟨by rw[HRJ.out.2,h1]⟩
       have n4:(pc==y0)=false:=by simpa using hpc
       clear h1 hcb HP hpc;go_upto_region 30 with (fail)
       refine px 99 (fun w'=>ab wj w') (by kernel_rfl) ?_;have kS:ab wj wj.drew:=(zE _).drew;obtain⟨we,hwe⟩:∃z:World,z=wj.drew:=⟨_,rfl⟩
       rw[<-hwe]at kS⊢;clear hwe;refine ur 12 [(0,166),(1,167),(2,168),(3,169),(4,170),(5,171),(6,172),(7,173),(8,174),(9,175),(10,176),(11,177)] rfl (by kernel_rfl) (by kernel_rfl) (fun _ _ _ _ _ h=>h) kS ?_;iterate 12 (apply Ff;(case ho=>exact rfl);(case hw=>exact rfl);(case hy=>((intro wk hk);(try dsimp only at hk);(replace s0:=hk.cell s0);(replace i1:=hk.cell i1);(replace p0:=hk.cell p0);go_simp;try with_reducible rfl));(case hput=>(simp only[Act.put,List.setIfInBounds_toArray,List.set_cons_zero,List.set_cons_succ];exact rfl)))
       refine Lh ?_;refine zcw (by kernel_rfl) ?_ _;have HRE:Bx (ab w17 we):=⟨HRJ.out.1.trans kS⟩
       clear kS i1 p0 n4;go_wp2_with fail;go_roundw
       case rel=>exact⟨j+1,r,rfl,by go_num,by omega,hr6,⟨⟨HRE.out,HR2.out⟩⟩⟩
       case measure=>simp[intOf];omega
     ·obtain rfl:j=ng:=by omega
      have hr2:r=ME s t (i+1):=by rw[HRJ.out.2,QI HXX.out HDD.out,<-HKQ.out.2,<-HTL.out.2,List.take_length]
      have hle:=OL HBE.out (i+1);rw[<-hr2,HTL.out.2]at hle;have HR2:=zZ hr2;have HK2:Bx (k=MB s t (i+1)):=⟨by rw[QA HXX.out HDD.out];exact HKQ.out.1⟩
      have HRE:Bx (ab w16 wj):=⟨HRD.out.trans HRJ.out.1⟩
      have hr3:r<=300:=by omega
      clear hr2 hle;go_wp2_with fail;go_roundw
      case rel=>exact⟨i+1,k,r,rfl,rfl,by go_num,by omega,hr3,hk6,⟨⟨HRE.out,HK2.out,HR2.out⟩⟩⟩
      case measure=>simp[intOf];omega
  ·obtain rfl:i=nX:=by omega
   obtain rfl:k=nV:=by rw[HR.out.2.1,<-HXL.out,PX (d:=td) (f:=tf) (ld:=tl)];exact HVL.out
   obtain rfl:q=ng:=by rw[HR.out.2.2,<-HXL.out,PE HBE.out];exact HTL.out.2
   have i1:=((HF16.out.at_ 1 rfl).ext HR.out.1).cell (i:=1) rfl;have hn:=HR.out.1.cell HN16.out;have e1:((k:Int)==(k:Int))=true:=by simp
   have e2:((q:Int)==(q:Int))=true:=by simp
   go_wp2_with fail;refine (wS _).mono ?_;rintro e w18 ⟨rfl,hx18⟩;go_wp2_with fail;go_ret
   exact⟨rfl,((HF16.out.fin HE.out).trans HR.out.1).trans hx18⟩
end Go.Proofs.YtpaidaphacoblaaGreatDoor

