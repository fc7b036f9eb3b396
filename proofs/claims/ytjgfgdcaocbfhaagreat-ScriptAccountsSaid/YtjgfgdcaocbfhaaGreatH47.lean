import Derived.Test.YtjgfgdcaocbfhaaGreatScQ
import Derived.Test.YtjgfgdcaocbfhaaGreatScN
import Derived.Test.YtjgfgdcaocbfhaaGreatOpen
import Derived.Deep.SlicePairs
set_option linter.all false
set_option maxRecDepth 100000
set_option maxHeartbeats 0
namespace Go.Proofs.YtjgfgdcaocbfhaaGreat
open Go.RowKit _root_.Go.Proofs.Tryz
variable {k n p:Nat} {cs:Array Value}
theorem At{g:Nat}{w:World}{t:TypeId}{l:List Int}(hb:Bk w g cs t)(hp:g≠p)(hl:cs=(l.map (Value.int .i64)).toArray)(h64:∀x∈l,aC x)(hn:l.length≤1000):ao p w (.slice (some ⟨g,0,none⟩) l.length l.length) l :=
 ⟨some ⟨g,0,none⟩,l.length,rfl,zX _,by omega,by omega,h64,fun k x hx=>⟨g,0,rfl,hp,by rw[yV];exact hb.cell (by rw[hl];simp[hx])⟩⟩
theorem dI{l:List aY}{x:aY}(hx:l[k]?=some x)(j:Int):de (l.take (k+1)) j=de (l.take k) j+(if x.state=j then 1 else 0):=by
 unfold de;rw[ag hx,yJ,zI];by_cases h:x.state=j
 ·rw[if_pos h,wX (by simp[h])];simp
 ·rw[if_neg h,wW (by simp[h])];simp
theorem rU(l:List aY)(k:Nat)(j:Int):0≤de (l.take k) j∧de (l.take k) j≤(k:Int):=by
 unfold de;have h1:=xC (fun x:aY=>decide (x.state=j)) (l.take k);have h2:(l.take k).length≤k:=by rw[zF];omega
 omega
def gU(l:List aY)(n k:Nat)(cs:Array Value):Prop:=cs=#[.int .i64 (n:Int),.int .i64 (de (l.take k) 1),.int .i64 (de (l.take k) 2),.int .i64 (de (l.take k) 3),.int .i64 (de (l.take k) 4),.int .i64 (de (l.take k) 5),.int .i64 (de (l.take k) 6)]
theorem uK{l:List aY}{x:aY}(h:gU l n k cs)(hx:l[k]?=some x)(hs:¬(1≤x.state∧x.state≤6)):gU l n (k+1) cs:=by
 unfold gU at *
 rw[dI hx,dI hx,dI hx,dI hx,dI hx,dI hx,if_neg (by omega),if_neg (by omega),if_neg (by omega),if_neg (by omega),if_neg (by omega),if_neg (by omega)];simpa using h
theorem Bd{l:List aY}{j:Nat}{x:aY}(h:gU l n k cs)(hx:l[k]?=some x)(hs:x.state=(j:Int))(h1:1≤j)(h6:j≤6):cs[j]?=some (.int .i64 (de (l.take k) (j:Int)))∧gU l n (k+1) (cs.setIfInBounds j (.int .i64 (de (l.take k) (j:Int)+1))):=by
 unfold gU at *
 subst h;rw[dI hx,dI hx,dI hx,dI hx,dI hx,dI hx,hs];rcases (by omega:j=1∨j=2∨j=3∨j=4∨j=5∨j=6) with rfl|rfl|rfl|rfl|rfl|rfl<;>exact⟨rfl,by simp⟩
theorem AW{l:List aY}(h:gU l n n cs)(hn:l.length=n):cs=((kU l).map (Value.int .i64)).toArray:=by unfold gU at h;rw[h];unfold kU;rw[aD (by omega),hn];rfl
theorem AD{l:List aY}(hn:l.length≤1000000):∀x∈kU l,aC x:=by
 intro x hx;have hb:=rU l l.length;rw[aD (by omega)]at hb;unfold kU at hx;simp only[yG,wK,or_false]at hx;rcases hx with rfl|rfl|rfl|rfl|rfl|rfl|rfl
 ·exact⟨by omega,by omega⟩
 all_goals (first|(have:=hb 1;exact⟨by omega,by omega⟩)|(have:=hb 2;exact⟨by omega,by omega⟩)|(have:=hb 3;exact⟨by omega,by omega⟩)|(have:=hb 4;exact⟨by omega,by omega⟩)|(have:=hb 5;exact⟨by omega,by omega⟩)|(have:=hb 6;exact⟨by omega,by omega⟩))
theorem mT(v:Value)(t:en)(w:World)(hp:p<w.heap.size)(ht:bN p w v t)(hn:t.sts.length≤1000000) :
  Calls prog 22 #[v] w fun e w'=>(∃vr,e=.returned vr∧ao p w' vr (kU t.sts))∧ab w w':=by
 obtain⟨vS,vG,rfl,hS,hG⟩:=ht;obtain⟨AG,nG,cG,rfl,-⟩:=hG.open_;obtain⟨AS,nS,cS,rfl,hnc,hcc,hnn,HL⟩:=hS.open_;have HS:Bx (eF p w (.slice AS nS cS) t.sts):=⟨hS⟩
 have hn3:nS≤1000000:=by have:=HL.out;omega
 have HN:=zZ hn;clear hS hG hn;obtain⟨w1,hw1⟩:=nm (((w.alloc (.cells #[.slice AS nS cS,.slice AG nG cG] 31)).alloc (.cells #[.int .i64 0,.int .i64 0,.int .i64 0,.int .i64 0,.int .i64 0,.int .i64 0,.int .i64 0] 102)):World);have HF:Bx (ae w w1 [(w.heap.size,#[.slice AS nS cS,.slice AG nG cG],31),(w.heap.size+1,#[.int .i64 0,.int .i64 0,.int .i64 0,.int .i64 0,.int .i64 0,.int .i64 0,.int .i64 0],102)]):=⟨by rw[hw1];exact ((ae.start w).push _ _ rfl).push _ _ (by simp)⟩
 go_enter func22,ntmps22
 go_upto_region 2 with (fail)
 rw[←hw1];clear hw1;have b0:=(HF.out.at_ 0 rfl).c 0 rfl;have a0:=(HF.out.at_ 1 rfl).c 0 rfl;have f0:=(HF.out.at_ 1 rfl).froz;go_upto_region 3 with (fail)
 have hF2:=HF.out.set 1 rfl 0 (.int .i64 (nS:Int));obtain⟨w2,hw2⟩:=nm ((w1.setCell ⟨w.heap.size+1,0,none⟩ (.int .i64 (nS:Int))):World);rw[←hw2]at hF2;rw[←hw2];have HF2:Bx (∃cs,ae w w2 [(w.heap.size,#[.slice AS nS cS,.slice AG nG cG],31),(w.heap.size+1,cs,102)]∧gU t.sts nS 0 cs):=⟨⟨_,hF2,by simp[gU,de]⟩⟩
 clear hw2 hF2 HF b0 a0 f0;have b0:w2.cell? ⟨w.heap.size,0,none⟩=some (.slice AS nS cS):=by obtain⟨cs,h,-⟩:=HF2.out;exact (h.at_ 0 rfl).c 0 rfl
 go_wp2_with fail;clear b0;go_loopw [13] (fun s13 wr=>∃k:Nat,s13=.int .i64 k∧k≤nS∧Bx (∃cs,ae w wr [(w.heap.size,#[.slice AS nS cS,.slice AG nG cG],31),(w.heap.size+1,cs,102)]∧gU t.sts nS k cs)) (fun k _=>nS-(intOf k).toNat)
 case atStart=>exact⟨0,rfl,by omega,HF2⟩
 case round =>
  obtain⟨k,rfl,hk,HR⟩:=hrel;obtain⟨cs,hfr,hac⟩:=HR.out;have HFr:Bx (ae w wr [(w.heap.size,#[.slice AS nS cS,.slice AG nG cG],31),(w.heap.size+1,cs,102)]):=⟨hfr⟩
  have HA:=zZ hac;clear HR HF2 hfr hac;have b0:=(HFr.out.at_ 0 rfl).c 0 rfl;by_cases hkn:k<nS
  ·obtain⟨bS,oS,_,_,rfl,-⟩:=HS.out.at_ hkn;obtain⟨xs,xq,xt,xa,xb,xc,xd,HX,-,x0,x1,x2,x3,x4,x5,x6⟩:=eF.read HS.out HFr.out.xt hkn;go_upto_region 6 with (fail)
   obtain⟨gx,hgx⟩:=nm wr.heap.size;obtain⟨w3,hw3⟩:=nm ((wr.alloc (.cells #[.int .i64 xs,.int .i64 xq,.int .i64 xt,.int .i64 xa,.int .i64 xb,.int .i64 xc,.int .i64 xd] 75)):World);have HF3:Bx (ae w w3 [(w.heap.size,#[.slice (some ⟨bS,oS,none⟩) nS cS,.slice AG nG cG],31),(w.heap.size+1,cs,102),(gx,#[.int .i64 xs,.int .i64 xq,.int .i64 xt,.int .i64 xa,.int .i64 xb,.int .i64 xc,.int .i64 xd],75)]):=⟨by rw[hw3];exact HFr.out.push _ _ hgx.symm⟩
   rw[←hw3,←hgx];clear hw3 hgx HFr b0 x0 x1 x2 x3 x4 x5 x6;have y2:=(HF3.out.at_ 2 rfl).c 2 rfl;by_cases hok:1≤xt∧xt≤6;case neg =>
    have HE:=zZ (uK HA.out HX.out hok);by_cases h1:1≤xt
    ·have hd1:decide (xt≥1)=true:=decide_eq_true h1;have hd2:decide (xt≤6)=false:=decide_eq_false (by omega);go_wp2_with fail;go_roundw
     case rel=>exact⟨k+1,by go_num,by omega,⟨⟨cs,HF3.out.take 2,HE.out⟩⟩⟩
     case measure=>simp[intOf];omega
    ·have hd1:decide (xt≥1)=false:=decide_eq_false h1;go_wp2_with fail;go_roundw
     case rel=>exact⟨k+1,by go_num,by omega,⟨⟨cs,HF3.out.take 2,HE.out⟩⟩⟩
     case measure=>simp[intOf];omega
   obtain⟨hok1,hok2⟩:=hok;obtain⟨j,rfl⟩:=zG (show 0≤xt by omega);have hj1:1≤j:=by omega
   have hj6:j≤6:=by omega
   obtain⟨hcj,hnx⟩:=Bd HA.out HX.out rfl hj1 hj6;have HNX:=zZ hnx;have hbd:=rU t.sts k (j:Int);obtain⟨z,hz⟩:=nm (de (t.sts.take k) (j:Int));rw[←hz]at hcj hbd HNX;obtain⟨hbd1,hbd2⟩:=hbd;have aj:w3.cell? ⟨w.heap.size+1,j,none⟩=some (.int .i64 z):=(HF3.out.at_ 1 rfl).cell hcj;have fj:=(HF3.out.at_ 1 rfl).froz j;have hd1:decide ((j:Int)≥1)=true:=decide_eq_true hok1;have hd2:decide ((j:Int)≤6)=true:=decide_eq_true hok2;clear hcj hnx hz HX HA;go_wp2_with fail;have hF4:=HF3.out.set 1 rfl j (.int .i64 (z+1));go_roundw
   case rel=>exact⟨k+1,by go_num,by omega,⟨⟨_,hF4.take 2,HNX.out⟩⟩⟩
   case measure=>simp[intOf];omega
  ·obtain rfl:k=nS:=by omega
   have HE:=zZ (AW HA.out HL.out);have HI:Bx (ao p wr (.slice (some ⟨w.heap.size+1,0,none⟩) 7 7) (kU t.sts)):=⟨At (HFr.out.at_ 1 rfl) (by omega) HE.out (AD HN.out) (by unfold kU;simp)⟩
   go_wp2_with fail;go_ret
   exact⟨⟨_,rfl,HI.out⟩,HFr.out.xt⟩
theorem lF(v:Value)(t:en)(w:World)(hp:p<w.heap.size)(ht:bN p w v t)(hn:t.sts.length≤1000000) :
  Calls prog 23 #[v] w fun e w'=>(∃vr,e=.returned vr∧ao p w' vr (kU t.sts))∧ab w w':=by
 obtain⟨vS,vG,rfl,hS,hG⟩:=ht;obtain⟨AG,nG,cG,rfl,-⟩:=hG.open_;obtain⟨AS,nS,cS,rfl,hnc,hcc,hnn,HL⟩:=hS.open_;have HS:Bx (eF p w (.slice AS nS cS) t.sts):=⟨hS⟩
 have hn3:nS≤1000000:=by have:=HL.out;omega
 have HN:=zZ hn;clear hS hG hn;obtain⟨w1,hw1⟩:=nm (((w.alloc (.cells #[.slice AS nS cS,.slice AG nG cG] 31)).alloc (.cells #[.int .i64 0,.int .i64 0,.int .i64 0,.int .i64 0,.int .i64 0,.int .i64 0,.int .i64 0] 3)):World);have HF:Bx (ae w w1 [(w.heap.size,#[.slice AS nS cS,.slice AG nG cG],31),(w.heap.size+1,#[.int .i64 0,.int .i64 0,.int .i64 0,.int .i64 0,.int .i64 0,.int .i64 0,.int .i64 0],3)]):=⟨by rw[hw1];exact ((ae.start w).push _ _ rfl).push _ _ (by simp)⟩
 have hmk:(Instr.makeSlice 22 (.int .i64 7) (.int .i64 7)).run prog (w.alloc (.cells #[.slice AS nS cS,.slice AG nG cG] 31))=.ok (.slice (some ⟨w.heap.size+1,0,none⟩) 7 7) w1:=by have h:=qN 7 (by omega) (w.alloc (.cells #[.slice AS nS cS,.slice AG nG cG] 31));rw[show (madeCells #[Value.int .i64 0] 7)=#[.int .i64 0,.int .i64 0,.int .i64 0,.int .i64 0,.int .i64 0,.int .i64 0,.int .i64 0] by kernel_rfl]at h;rw[hw1];simpa using h
 go_enter func23,ntmps23
 go_upto_region 2 with (fail)
 try rw[←hw1]
 clear hw1 hmk;have b0:=(HF.out.at_ 0 rfl).c 0 rfl;have a0:=(HF.out.at_ 1 rfl).c 0 rfl;have f0:=(HF.out.at_ 1 rfl).froz;go_upto_region 3 with (fail)
 have hF2:=HF.out.set 1 rfl 0 (.int .i64 (nS:Int));obtain⟨w2,hw2⟩:=nm ((w1.setCell ⟨w.heap.size+1,0,none⟩ (.int .i64 (nS:Int))):World);rw[←hw2]at hF2;rw[←hw2];have HF2:Bx (∃cs,ae w w2 [(w.heap.size,#[.slice AS nS cS,.slice AG nG cG],31),(w.heap.size+1,cs,3)]∧gU t.sts nS 0 cs):=⟨⟨_,hF2,by simp[gU,de]⟩⟩
 clear hw2 hF2 HF b0 a0 f0;have b0:w2.cell? ⟨w.heap.size,0,none⟩=some (.slice AS nS cS):=by obtain⟨cs,h,-⟩:=HF2.out;exact (h.at_ 0 rfl).c 0 rfl
 go_wp2_with fail;clear b0;go_loopw [4] (fun s13 wr=>∃k:Nat,s13=.int .i64 k∧k≤nS∧Bx (∃cs,ae w wr [(w.heap.size,#[.slice AS nS cS,.slice AG nG cG],31),(w.heap.size+1,cs,3)]∧gU t.sts nS k cs)) (fun k _=>nS-(intOf k).toNat)
 case atStart=>exact⟨0,rfl,by omega,HF2⟩
 case round =>
  obtain⟨k,rfl,hk,HR⟩:=hrel;obtain⟨cs,hfr,hac⟩:=HR.out;have HFr:Bx (ae w wr [(w.heap.size,#[.slice AS nS cS,.slice AG nG cG],31),(w.heap.size+1,cs,3)]):=⟨hfr⟩
  have HA:=zZ hac;clear HR HF2 hfr hac;have b0:=(HFr.out.at_ 0 rfl).c 0 rfl;by_cases hkn:k<nS
  ·obtain⟨bS,oS,_,_,rfl,-⟩:=HS.out.at_ hkn;obtain⟨xs,xq,xt,xa,xb,xc,xd,HX,-,x0,x1,x2,x3,x4,x5,x6⟩:=eF.read HS.out HFr.out.xt hkn;have HF3:=HFr;by_cases hok:1≤xt∧xt≤6;case neg =>
    have HE:=zZ (uK HA.out HX.out hok);by_cases h1:1≤xt
    ·have hd1:decide (xt≥1)=true:=decide_eq_true h1;have hd2:decide (xt≤6)=false:=decide_eq_false (by omega);go_wp2_with fail;go_roundw
     case rel=>exact⟨k+1,by go_num,by omega,⟨⟨cs,HFr.out,HE.out⟩⟩⟩
     case measure=>simp[intOf];omega
    ·have hd1:decide (xt≥1)=false:=decide_eq_false h1;go_wp2_with fail;go_roundw
     case rel=>exact⟨k+1,by go_num,by omega,⟨⟨cs,HFr.out,HE.out⟩⟩⟩
     case measure=>simp[intOf];omega
   obtain⟨hok1,hok2⟩:=hok;obtain⟨j,rfl⟩:=zG (show 0≤xt by omega);have hj1:1≤j:=by omega
   have hj6:j≤6:=by omega
   obtain⟨hcj,hnx⟩:=Bd HA.out HX.out rfl hj1 hj6;have HNX:=zZ hnx;have hbd:=rU t.sts k (j:Int);obtain⟨z,hz⟩:=nm (de (t.sts.take k) (j:Int));rw[←hz]at hcj hbd HNX;obtain⟨hbd1,hbd2⟩:=hbd;have aj:wr.cell? ⟨w.heap.size+1,j,none⟩=some (.int .i64 z):=(HF3.out.at_ 1 rfl).cell hcj;have fj:=(HF3.out.at_ 1 rfl).froz j;have hd1:decide ((j:Int)≥1)=true:=decide_eq_true hok1;have hd2:decide ((j:Int)≤6)=true:=decide_eq_true hok2;clear hcj hnx hz HX HA;go_wp2_with fail;have hF4:=HF3.out.set 1 rfl j (.int .i64 (z+1));go_roundw
   case rel=>exact⟨k+1,by go_num,by omega,⟨⟨_,hF4,HNX.out⟩⟩⟩
   case measure=>simp[intOf];omega
  ·obtain rfl:k=nS:=by omega
   have HE:=zZ (AW HA.out HL.out);have HI:Bx (ao p wr (.slice (some ⟨w.heap.size+1,0,none⟩) 7 7) (kU t.sts)):=⟨At (HFr.out.at_ 1 rfl) (by omega) HE.out (AD HN.out) (by unfold kU;simp)⟩
   go_wp2_with fail;go_ret
   exact⟨⟨_,rfl,HI.out⟩,HFr.out.xt⟩
theorem uW:∀l:List aY,(∀x∈l,1≤x.state∧x.state≤6)→(l.length:Int)=de l 1+de l 2+de l 3+de l 4+de l 5+de l 6
 |[],_=>rfl
 |a::l,h=>by
  have ih:=uW l fun x hx=>h x (by simp[hx]);have ha:=h a (by simp);have e:∀k:Int,de (a::l) k=(if a.state=k then 1 else 0)+de l k:=fun k=>by
   unfold de;by_cases hk:a.state=k
   ·rw[wX (by simpa using hk),if_pos hk];simp;omega
   ·rw[wW (by simpa using hk),if_neg hk];simp
  simp only[e,xT];rcases (show a.state=1∨a.state=2∨a.state=3∨a.state=4∨a.state=5∨a.state=6 by omega) with h|h|h|h|h|h<;>simp[h]<;>omega
theorem jW(l:List aY)(k:Int):0≤de l k∧de l k≤(l.length:Int):=by unfold de;have:=xC (fun x:aY=>decide (x.state=k)) l;omega
theorem C5(l:List aY):de l 1=(fJ l:Int):=rfl
theorem kx(v0:Value)(l0:List Int)(v1:Value)(l1:List aY)(w:World)(h0:ao w.heap.size w v0 l0)(h1:eF w.heap.size w v1 l1) :
  Calls prog 6 #[v0,v1] w fun e w'=>e=.returned (.bool true)∧ab w w':=by
 have HL0:=zZ h1;obtain⟨A1,n1,c1,rfl,-,-,hm1,HN1⟩:=h1.open_;have H0:=zZ h0;clear h0;go_enter func6,ntmps6
 by_cases h60:n1≤60;case neg =>
  go_wp2_with fail;go_ret
  exact⟨rfl,zE _⟩
 go_wp2_with fail;refine (nE _ l0 _ H0.out).mono ?_;rintro e w1 ⟨rfl,HT1,HE1⟩;have HE:=zZ HE1;go_wp2_with fail;refine (i3 _ 0 w1 HT1 (by omega)).mono ?_;rintro e w2 ⟨v2,rfl,⟨vS,vI,s,t,rfl,hs,ht,hn1,hn2,hac⟩,HT2,HX2⟩;have HS2:=zZ hs;have HI2:=zZ ht;have HN:=zZ (yX hn1 hn2);have HAC:=zZ hac;obtain⟨vP,vB,vX,rfl,hP,hB,hX,-⟩:=hs;obtain⟨AP,nP,cP,rfl,-⟩:=hP.open_;obtain⟨AB,nB,cB,rfl,-⟩:=hB.open_;obtain⟨AX,nX,cX,rfl,-⟩:=hX.open_;obtain⟨vT,vG,rfl,hT,hG⟩:=ht;obtain⟨AS,nS,cS,rfl,-⟩:=hT.open_;obtain⟨AG,nG,cG,rfl,hg1,hg2,hg3,HLG⟩:=hG.open_;clear hP hB hX hT hG hn1 hn2 hac hg1 hg2 hg3;obtain⟨gS,hgS⟩:=nm w2.heap.size;obtain⟨w3,hw3⟩:=nm (((w2.alloc (.cells #[.int .i64 s.num,.slice AP nP cP,.slice AB nB cB,.slice AX nX cX] 27)).alloc (.cells #[.slice AS nS cS,.slice AG nG cG] 31)):World);have HF:Bx (Fr w.heap.size w1 w3 [(gS,#[.int .i64 s.num,.slice AP nP cP,.slice AB nB cB,.slice AX nX cX],27),(gS+1,#[.slice AS nS cS,.slice AG nG cG],31)]):=⟨by rw[hw3];exact (((Fr.start HT1).step HX2 HT2).push _ _ hgS.symm).push _ _ (by rw[hgS];simp)⟩
 have hx23:ab w2 w3:=by rw[hw3];exact ((zE _).alloc _).alloc _
 have HS:=bx (HS2.out.ext hx23);have HI:=bx (HI2.out.ext hx23);clear hx23 HS2 HI2;go_upto_region 5 with (fail)
 rw[←hw3,←hgS];clear hw3 hgS HT1 HT2 HX2;obtain⟨hst,hus⟩:=HAC.out rfl;have hsum:=uW t.sts hst;have hb1:=jW t.sts 1;have hb2:=jW t.sts 2;have hb3:=jW t.sts 3;have hb4:=jW t.sts 4;have hb5:=jW t.sts 5;have hb6:=jW t.sts 6;have hu1:de t.sts 1=(nG:Int):=by rw[C5,hus,HLG.out]
 have hmx:=HN.out.1;obtain⟨x0,hx0⟩:=nm ((t.sts.length:Int):Int);obtain⟨x2,hx2⟩:=nm (de t.sts 2:Int);obtain⟨x3,hx3⟩:=nm (de t.sts 3:Int);obtain⟨x4,hx4⟩:=nm (de t.sts 4:Int);obtain⟨x5,hx5⟩:=nm (de t.sts 5:Int);obtain⟨x6,hx6⟩:=nm (de t.sts 6:Int);have hac:kU t.sts=[x0,(nG:Int),x2,x3,x4,x5,x6]:=by unfold kU;rw[hu1,hx0,hx2,hx3,hx4,hx5,hx6]
 rw[hu1,←hx0,←hx2,←hx3,←hx4,←hx5,←hx6]at hsum;rw[←hx0]at hb1 hb2 hb3 hb4 hb5 hb6;rw[hu1]at hb1;rw[←hx2]at hb2;rw[←hx3]at hb3;rw[←hx4]at hb4;rw[←hx5]at hb5;rw[←hx6]at hb6;have hx01:x0≤1000:=by omega
 obtain⟨LL,hLL⟩:=nm (kU t.sts);rw[←hLL]at hac;have HAI:=zZ hac;have HLL:=zZ hLL;clear hLL;clear hst hus hu1 hx0 hx2 hx3 hx4 hx5 hx6 hac hmx;obtain⟨k2,k3,k4,k5,k6⟩:IntKind.i64.wrap ((nG:Int)+x2)=(nG:Int)+x2∧IntKind.i64.wrap ((nG:Int)+x2+x3)=(nG:Int)+x2+x3∧IntKind.i64.wrap ((nG:Int)+x2+x3+x4)=(nG:Int)+x2+x3+x4∧IntKind.i64.wrap ((nG:Int)+x2+x3+x4+x5)=(nG:Int)+x2+x3+x4+x5∧IntKind.i64.wrap ((nG:Int)+x2+x3+x4+x5+x6)=x0 :=
  ⟨yQ _ (by omega),yQ _ (by omega),yQ _ (by omega),yQ _ (by omega),by rw[yQ _ (by omega)];omega⟩
 have e0:(x0 != x0)=false:=by simp
 have e1:((nG:Int)!=(nG:Int))=false:=by simp
 obtain⟨i0,i1⟩:=(HF.out.at_ 1 rfl).p2 rfl;go_wp2_with fail;refine (mT _ t _ (p:=w.heap.size) HF.out.lt HI.out (by have:=HN.out.1;omega)).mono ?_;rintro e w4 ⟨⟨va,rfl,hra⟩,hx4⟩;obtain⟨Aa,na,ca,rfl,-⟩:=hra.open_;rw[←HLL.out]at hra;have HA0:=zZ hra;rw[HAI.out]at hra;obtain rfl:na=7:=by have:=hra.len;simpa using this.symm
 have HA4:Bx (ao w.heap.size w4 (.slice Aa 7 ca) LL):=⟨HA0.out⟩
 have HF4:=bx (HF.out.ext hx4);have HI4:=bx (HI.out.ext hx4);obtain⟨ba,oa,_,hA1,-⟩:=hra.at_ (k:=0) (by omega);subst hA1;obtain⟨A',c',hv,-,-,-,-,h5⟩:=hra;injection hv with hv1 _ hv3;subst hv3;have hcell:∀(k:Nat) x,([x0,(nG:Int),x2,x3,x4,x5,x6]:List Int)[k]?=some x→w4.cell? ⟨ba,oa+k,none⟩=some (.int .i64 x):=fun k x hk=>by obtain⟨b,off,ha,-,hc⟩:=h5 k x hk;rw[←hv1]at ha;cases ha;exact hc
 have a0:w4.cell? ⟨ba,oa,none⟩=some (.int .i64 x0):=hcell 0 _ rfl;have a1:=hcell 1 _ rfl;have a2:=hcell 2 _ rfl;have a3:=hcell 3 _ rfl;have a4:=hcell 4 _ rfl;have a5:=hcell 5 _ rfl;have a6:=hcell 6 _ rfl;have j1:=(HF4.out.at_ 1 rfl).c 1 rfl;clear hcell h5 hv1 hx4 HF HI i0 i1 HAC HA0;go_upto_region 6 with (fail)
 refine zQ 99 fun wd kS=>?_;refine zS 41 [(0,21),(1,22),(2,23),(3,24),(4,25),(5,26),(6,27),(7,28),(8,29),(9,30),(10,31),(11,32),(12,33),(13,34),(14,35),(15,36),(16,37),(17,38),(18,39),(19,40),(20,41),(21,42),(22,43),(23,44),(24,45),(25,46),(26,47),(27,48),(28,49),(29,50),(30,51),(31,52),(32,53),(33,54),(34,55),(35,56),(36,57),(37,58),(38,59),(39,60),(40,61)] kS ?_;iterate 41 (apply zT;exact⟨rfl,rfl⟩;(·intro wk hk;have:=hk.cell a0;have:=hk.cell a1;have:=hk.cell a2;have:=hk.cell a3;have:=hk.cell a4;have:=hk.cell a5;have:=hk.cell a6;have:=hk.cell j1;go_simp;try with_reducible rfl);simp only[kA];exact rfl)
 refine zN (zD ?_);have HA5:=zZ (HA4.out.ext kS);have HF5:=bx (HF4.out.ext kS);have HI5:=bx (HI4.out.ext kS);clear a0 a1 a2 a3 a4 a5 a6 j1 kS HF4 HI4 HA4 k2 k3 k4 k5 k6 e0 e1 hb1 hb2 hb3 hb4 hb5 hb6 hsum;obtain⟨i0,i1⟩:=(HF5.out.at_ 1 rfl).p2 rfl;go_wp2_with fail;refine (lF _ t _ (p:=w.heap.size) HF5.out.lt HI5.out (by have:=HN.out.1;omega)).mono ?_;rintro e w6 ⟨⟨vb,rfl,hrb⟩,hx6⟩;rw[←HLL.out]at hrb;obtain⟨Ab,nb,cb,rfl,-⟩:=hrb.open_;go_wp2_with fail;refine (dH _ _ _ _ _ (HA5.out.ext hx6) hrb).mono ?_;rintro e w7 ⟨rfl,hx7⟩;rw[show decide (LL=LL)=true from decide_eq_true rfl];have HX7:Bx (ab w w7):=⟨((HF5.out.xt.fresh HE.out (zX _)).trans hx6).trans hx7⟩
 obtain⟨t1,ht1,hl1⟩:∃z:en,bN w.heap.size w7 (.agg #[.slice A1 n1 c1,.slice none 0 0]) z∧z.sts=l1:=⟨⟨l1,[]⟩,⟨_,_,rfl,HL0.out.ext (fun _ _ _ _ h _=>h) HX7.out,bg.nil _ _ _ _⟩,rfl⟩
 have HL7:Bx (bN w.heap.size w7 (.agg #[.slice A1 n1 c1,.slice none 0 0]) t1):=⟨ht1⟩
 have hs1:t1.sts.length≤1000000:=by rw[hl1];have:=HN1.out;omega
 have HS1:=zZ hs1;clear ht1 hl1 hs1;have hlt7:w.heap.size<w7.heap.size:=by have h1:=HF5.out.lt;have h2:=hx6.size;have h3:=hx7.size;omega
 clear HF5 HI5 HA5 hx6 hx7 hrb i0 i1 HAI HLL;have h1m:n1≤1000000:=by omega
 go_wp2_with fail;refine (mT _ t1 _ (p:=w.heap.size) hlt7 HL7.out HS1.out).mono ?_;rintro e w8 ⟨⟨vc,rfl,hrc⟩,hx8⟩;obtain⟨L1,hL1⟩:=nm (kU t1.sts);rw[←hL1]at hrc;have HL1':=zZ hL1;clear hL1;obtain⟨Ac,nc,cc,rfl,-⟩:=hrc.open_;have HL8:=bx (HL7.out.ext hx8);have hlt8:w.heap.size<w8.heap.size:=by have h2:=hx8.size;omega
 go_wp2_with fail;refine (lF _ t1 _ (p:=w.heap.size) hlt8 HL8.out HS1.out).mono ?_;rintro e w10 ⟨⟨vd,rfl,hrd⟩,hx10⟩;rw[←HL1'.out]at hrd;obtain⟨Ad,nd,cd,rfl,-⟩:=hrd.open_;go_wp2_with fail;refine (dH _ _ _ _ _ (hrc.ext hx10) hrd).mono ?_;rintro e w11 ⟨rfl,hx11⟩;rw[show decide (L1=L1)=true from decide_eq_true rfl];go_wp2_with fail;refine (gW _).mono ?_;rintro e w9 ⟨rfl,hx9⟩;go_wp2_with fail;go_ret
 exact⟨rfl,(((HX7.out.trans hx8).trans hx10).trans hx11).trans hx9⟩
end Go.Proofs.YtjgfgdcaocbfhaaGreat

namespace Go.Proofs.YtjgfgdcaocbfhaaGreat
open Go.ChangeShapes Go.WideShapes Go.ChangeAt Go.RowKit
variable {i t:TypeId}
section
variable {H:Type} {enc:TypeId×Value→H} {P:Program} {W:World} {sp:Nat→Bool} {held:Bool} {r:Reach} {b0:Nat}
theorem tU{α:Type}{size:Nat}{R:World→List Value→α→Prop}{e:TypeId}{v:Value}{d:DataW H}{p:List MemPlace}(q:Nat)(hq:W.heap.size≤q)(hu:P.underlying t=some (.slice e))(ce:P.cellsOf e=size)(hsz:0<size)(hel:∀fuel cs x,DataW.trod enc P W 0 sp held fuel e cs=some x→cs.length=size→∃a:α,R W cs a)(hv:Value.okWide P W r b0 t v)(h:DataW.Trod enc P W 0 sp held t v d p):∃xs,bg q size R W v xs:=by
 obtain⟨a,len,cap,rfl⟩:=okWide_slice hu hv;obtain⟨fuel,hf⟩:=h;rcases Go.Deep.open_slice hu hf with ⟨hcs,_⟩|⟨x,l,c,m,n,D,Pl,hcs,_,hl,hm,hmm,_,hrow⟩
 ·simp[Value.cells]at hcs;obtain⟨rfl,rfl,rfl⟩:=hcs;exact⟨[],bg.nil _ _ _ _⟩
 ·simp[Value.cells]at hcs;obtain⟨rfl,rfl,rfl⟩:=hcs;have hm':cap≤9223372036854775807:=hm;have hlm:len≤m:=by rw[hmm];split<;>omega
  obtain⟨ys,hyl,hys⟩:=nO (P:=fun k (y:α)=>∃cs:List Value,cs.length=size∧(∀i,i<size→W.cell? ((x.add (k*size)).add i)=cs[i]?)∧R W cs y) (List.range len) (fun k z hz=>by
   have hk:k<len:=by simpa using (zY.1 hz).1
   obtain⟨cs',h1,h2⟩:=hrow k (by omega);rw[ce]at h1;obtain⟨_,hlen,hcell⟩:=World.cells?_some h1;obtain⟨y,hy⟩:=hel _ _ _ h2 hlen;exact⟨y,cs',hlen,hcell,hy⟩)
  rw[wM]at hyl;refine⟨ys,some x,cap,by rw[hyl],by omega,hm',fun k y hy=>?_⟩;have hk:=(zY.1 hy).1;obtain⟨cs,hlen,hcell,hr⟩:=hys k y hy;obtain⟨cs0,hlen0,hcell0,-⟩:=hys 0 ys[0] (zW (by omega));have c00:=hcell0 0 hsz;rw[zW (by omega)]at c00;obtain⟨xb,xo,xs⟩:=x;have hs:xs=none:=FK (show W.cell? ⟨xb,xo,xs⟩=some _ by simpa[Addr.add] using c00);subst hs;have hcc:∀j u,cs[j]?=some u→W.cell? ⟨xb,xo+k*size+j,none⟩=some u:=fun j u hu=>by have hj:=(zY.1 hu).1;have:=hcell j (by omega);rw[ik,ik]at this;rw[this,hu]
  have hlt:=bZ (hcc 0 cs[0] (zW (by omega)));exact⟨xb,xo,cs,rfl,by simp at hlt;omega,hlen,hcc,hr⟩
def E4(fs:Array Field)(i:TypeId):Bool:=(List.range fs.size).all fun j=>match fs[j]? with|some f=>decide (f.offset=j)&&decide (f.type=i)|none=>false
theorem GF{cs:List Value}{o n:Nat}{y:DataW H×List MemPlace}(hi:P.underlying i=some (.int .i64))(h:DataW.trod enc P W 0 sp held n i ((cs.drop o).take 1)=some y):∃x,cs[o]?=some (.int .i64 x)∧aC x:=by
 obtain⟨x,hx,_,hw⟩:=DataW.trod_int hi h;refine⟨x,?_,mH hw⟩;have h0:((cs.drop o).take 1)[0]?=some (.int .i64 x):=by rw[hx];rfl
 rw[yB,if_pos (by omega),xB]at h0;simpa using h0
theorem fh{fs:Array Field}{fuel:Nat}{cs:List Value}{x:DataW H×List MemPlace}(ht:P.underlying t=some (.struct fs))(hi:P.underlying i=some (.int .i64))(ci:P.cellsOf i=1)(hb:E4 fs i=true)(h:DataW.trod enc P W 0 sp held fuel t cs=some x):∀j,j<fs.size→∃x,cs[j]?=some (.int .i64 x)∧aC x:=by
 intro j hj;obtain⟨xs,n,_,_,_,hxl,hf⟩:=DataW.trod_struct ht h;have h1:=yS.1 hb j (zB.2 hj);have hfj:fs[j]?=some fs[j]:=Array.getElem?_eq_getElem hj;rw[hfj]at h1;simp only[yY,decide_eq_true_eq]at h1;have h2:=hf j _ hfj;rw[h1.1,h1.2,ci,zW (by omega)]at h2;exact GF hi h2
theorem su{e tI tL:TypeId}{f0 f1 f2:Field}{fI fL:Array Field}{v:Value}{d:DataW H}{p:List MemPlace}(q:Nat)(hq:W.heap.size≤q)(hu:P.underlying t=some (.slice e))(he:P.underlying e=some (.struct #[f0,f1,f2]))(hI:P.underlying tI=some (.struct fI))(hL:P.underlying tL=some (.struct fL))(hi:P.underlying i=some (.int .i64))(ce:P.cellsOf e=7)(cI:P.cellsOf tI=2)(cL:P.cellsOf tL=4)(ci:P.cellsOf i=1)(o0:f0.offset=0)(o1:f1.offset=2)(o2:f2.offset=3)(t0:f0.type=tI)(t1:f1.type=i)(t2:f2.type=tL)(bI:E4 fI i=true)(bL:E4 fL i=true)(sI:fI.size=2)(sL:fL.size=4)(hv:Value.okWide P W r b0 t v)(h:DataW.Trod enc P W 0 sp held t v d p):∃l,eF q W v l:=by
 refine tU q hq hu ce (by decide) (fun fuel cs x h hl=>?_) hv h;obtain⟨xs,n,_,_,_,hxl,hf⟩:=DataW.trod_struct he h;have hxl':xs.length=3:=hxl;have h0:=hf 0 f0 rfl;have h1:=hf 1 f1 rfl;have h2:=hf 2 f2 rfl;rw[t0,o0,cI,zW (by omega)]at h0;rw[t1,o1,ci,zW (by omega)]at h1;rw[t2,o2,cL,zW (by omega)]at h2;obtain⟨st,hst,wst⟩:=GF hi h1;obtain⟨a0,ha0,wa0⟩:=fh hI hi ci bI h0 0 (by omega);obtain⟨a1,ha1,wa1⟩:=fh hI hi ci bI h0 1 (by omega);obtain⟨b0,hb0,wb0⟩:=fh hL hi ci bL h2 0 (by omega);obtain⟨b1,hb1,wb1⟩:=fh hL hi ci bL h2 1 (by omega);obtain⟨b2,hb2,wb2⟩:=fh hL hi ci bL h2 2 (by omega);obtain⟨b3,hb3,wb3⟩:=fh hL hi ci bL h2 3 (by omega);match cs,hl with
 |[c0,c1,c2,c3,c4,c5,c6],_ =>
  simp at hst ha0 ha1 hb0 hb1 hb2 hb3;subst hst ha0 ha1 hb0 hb1 hb2 hb3;exact⟨⟨⟨a0,a1⟩,st,⟨b0,b1,b2,b3⟩⟩,rfl,⟨wa0,wa1⟩,wst,wb0,wb1,wb2,wb3⟩
end
end Go.Proofs.YtjgfgdcaocbfhaaGreat

