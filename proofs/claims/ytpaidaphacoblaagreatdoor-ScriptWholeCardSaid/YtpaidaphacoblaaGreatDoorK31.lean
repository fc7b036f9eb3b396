import Derived.Sort.OwnSortedInts
import Derived.Test.YtpaidaphacoblaaGreatDoorK30
set_option linter.all false
set_option maxRecDepth 100000
set_option maxHeartbeats 0
namespace Go.Proofs.YtpaidaphacoblaaGreatDoor
open Go.Value renaming int→A,slice→C
open Go.IntKind renaming i64→B
open Go.RowKit Go.Sort
section
variable {w w':World} {b:Nat} {v:Value} {l ts:List Int}
theorem NJ(W:World):grow W #[]=W:=by simp[grow]
theorem hZ.sorted{g cap n:Nat}{os:Array Obj}(h:hZ w b (C (some ⟨g,0,none⟩) l.length cap) l)(hl:ts.length=l.length)(hm:∀x∈ts,aU x) :
  hZ (grow (putRow (Value.int .i64) (Sort.ahead w n) g 0 ts.toArray) os) b (C (some ⟨g,0,none⟩) l.length cap) ts:=by
 rcases h.1.2 with ⟨e,h0⟩|⟨g',cap',cur,e,hb,hk,h1,h2,h3,h4⟩
 ·cases e
 ·cases e;exact⟨by rw[hl];exact ownsRow_sortedI hl hb hk h1 h2 h3,hm,by rw[hl];exact h.2.2⟩
theorem hZ.take{g n cap k:Nat}(h:hZ w b (C (some ⟨g,0,none⟩) n cap) l)(hn:l.length=n)(hk:k<=n):hZ w b (C (some ⟨g,0,none⟩) k cap) (l.take k):=by
 subst hn;have h1:=GV h.1 hk;rw[wH,<-List.map_take]at h1;have hl:(l.take k).length=k:=by simp;omega
 exact⟨by rw[hl];exact h1,fun x hx=>h.2.1 x (uI hx),by have:=h.2.2;omega⟩
end
theorem O2(v:Value)(l:List Int)(w:World){b:Nat}(h:hZ w b v l) :
  Calls Tryz.prog 121 #[v] w fun e w'=>e=.returned (.tuple #[])/\hZ w' b v (l.mergeSort fun x y=>decide (x<=y))/\w.grownBy w' v.ownBlock:=by
 rcases h.1.2 with ⟨e,h0⟩|⟨g,cap,cur,e,hb,hk,h1,h2,h3,h4⟩
 ·subst e;have hl:l=[]:=xZ h0;subst hl;refine (AnyG.slices_Sort_int_none OH none 0 w).mono ?_;rintro e w' ⟨rfl,rfl⟩;exact⟨rfl,by simpa using hZ.nil w' b,uU _ _⟩
 ·subst e;refine (AnyG.slices_Sort_int OH g 0 cap l w (holds_of_blockI hk (by simpa using h4)) (Array.getElem?_eq_some_iff.1 hk).1 (by have:=h.2.2;omega)).mono ?_;rintro e w' ⟨rfl,n,os,rfl⟩;exact⟨rfl,h.sorted (by simp) (fun x hx=>h.2.1 x (List.mem_mergeSort.1 hx)),grownBy_sortedI _⟩
theorem Ow(zs:List Int):(Lib.compact zs).length<=zs.length/\∀x∈Lib.compact zs,x∈zs:=by unfold Lib.compact Lib.compactUpTo;refine⟨by rw[zJ];exact yR (uP _ _) (by simp),fun x hx=>?_⟩;obtain⟨j,hj,rfl⟩:=zF.1 hx;have h:=yX.1 (xR.1 hj).1;rw[getElem!_pos zs.toArray j (by simpa using h)];simp
theorem NF(v:Value)(l:List Int)(w:World){b:Nat}(h:hZ w b v l) :
  Calls Tryz.prog 122 #[v] w fun e w'=>(∃v',e=.returned v'/\hZ w' b v' (Lib.compact l))/\w.grownBy w' v.ownBlock:=by
 rcases h.1.2 with ⟨e,h0⟩|⟨g,cap,cur,e,hb,hk,h1,h2,h3,h4⟩
 ·subst e;have hl:l=[]:=xZ h0;subst hl;refine (AnyG.slices_Compact_int_empty Nm none 0 w).mono ?_;rintro e w' ⟨rfl,rfl⟩;have e:Lib.compact ([]:List Int)=[]:=rfl;exact⟨⟨_,rfl,by rw[e];exact hZ.nil w' b⟩,uU _ _⟩
 ·subst e;have hcl:=Ow l;refine (AnyG.slices_Compact_int Nm g 0 cap l w (holds_of_blockI hk (by simpa using h4)) (by have:=h.2.2;omega) h1).mono ?_;rintro e w' ⟨rfl,n,rfl⟩;have h5:=h.sorted (n:=n) (os:=#[]) (ts:=Lib.compact l++List.replicate (l.length-(Lib.compact l).length) 0) (by simp;omega) (fun x hx=>by
   rcases zM.1 hx with hx|hx
   ·exact h.2.1 x (hcl.2 x hx)
   ·obtain rfl:=uX hx;exact⟨by decide,by decide⟩)
  have h6:=h5.take (k:=(Lib.compact l).length) (by simp;omega) hcl.1;rw[NJ,List.take_left]at h6;have h7:=grownBy_sortedI (w:=w) (g:=g) (n:=n) (os:=#[]) (Lib.compact l++List.replicate (l.length-(Lib.compact l).length) 0).toArray;rw[NJ]at h7;exact⟨⟨_,rfl,h6⟩,h7⟩
def ri(l:List dF)(c:Int)(k:Nat):List Int:=((l.take k).filter (Nd c)).map fun x=>x.lab.g
section
variable {l:List dF} {c:Int} {k:Nat} {x:dF}
theorem Oi(hx:l[k]?=some x)(h:Nd c x=false):ri l c (k+1)=ri l c k:=by unfold ri;rw[ax hx,xM,uB (by rw[h];simp)];simp
theorem Ps(hx:l[k]?=some x)(h:Nd c x=true):ri l c (k+1)=ri l c k++[x.lab.g]:=by unfold ri;rw[ax hx,xM,uC h,List.filter_nil,yG,wK,List.map_nil]
theorem O4(h:l.length=k):Lib.compact ((ri l c k).mergeSort fun x y=>decide (x<=y))=lb l c:=by rw[Nz];unfold ri lb;rw[bh (by omega)]
theorem O5(l:List dF)(c:Int)(k:Nat):(ri l c k).length<=k:=by unfold ri;rw[zJ];exact yR (uP _ _) (by simp;omega)
end
theorem Ns(v:Value)(t:r6)(c:Int)(w:World){p:Nat}(hp:p<w.heap.size)(ht:aK p w v t)(hn:t.sts.length<=1000) :
  Calls Tryz.prog 81 #[v,A B c] w fun e w'=>(∃v',e=.returned v'/\hZ w' w.heap.size v' (lb t.sts c))/\ab w w':=by
 obtain⟨i0,hi0,hz0,hz1,hz2⟩:=info_parts Tryz.infoI;obtain⟨vS,vG,rfl,hS,hG⟩:=ht;obtain⟨AG,nG,cG,rfl,-⟩:=hG.open_;obtain⟨AS,nS,cS,rfl,hnc,hcc,hnn,HL⟩:=hS.open_;have HS:Bx (rA p w (C AS nS cS) t.sts):=⟨hS⟩
 have hn3:nS<=1000:=by have:=HL.out;omega
 clear hS hG hn;obtain⟨w1,hw1⟩:=nm ((w.alloc (.cells #[C AS nS cS,C AG nG cG] 45)):World);have HF:Bx (aA w w1 [(w.heap.size,#[C AS nS cS,C AG nG cG],45)]):=⟨by rw[hw1];exact (aA.start w).push _ _ rfl⟩
 go_enter Tryz.func81,Tryz.ntmps81
 go_upto_region 1 with (fail)
 rw[<-hw1];clear hw1;have b0:=(HF.out.at_ 0 rfl).c 0 rfl;go_wp2_with fail;clear b0;go_loopw [5,11] (fun s5 s11 wr=>∃k:Nat,s11=A B k/\k<=nS/\Bx (aA w wr [(w.heap.size,#[C AS nS cS,C AG nG cG],45)]/\hZ wr w.heap.size s5 (ri t.sts c k))) (fun _ k _=>nS-(intOf k).toNat)
 case atStart=>exact⟨0,rfl,by omega,⟨⟨HF.out,by simpa[ri] using hZ.nil w1 w.heap.size⟩⟩⟩
 case round =>
  obtain⟨k,rfl,hk,HR⟩:=hrel;have HFr:Bx (aA w wr [(w.heap.size,#[C AS nS cS,C AG nG cG],45)]):=⟨HR.out.1⟩
  have HO:Bx (hZ wr w.heap.size _ (ri t.sts c k)):=⟨HR.out.2⟩
  obtain⟨Ao,co,hu⟩:=HO.out.form;obtain⟨no,hno⟩:=nm ((ri t.sts c k).length);have hnok:no<=k:=by rw[hno];exact O5 _ _ _
  have HNO:=zZ hno;rw[<-hno]at hu;subst hu;clear HR HF hno;by_cases hkn:k<nS
  ·obtain⟨b,off,_,_,rfl,-⟩:=HS.out.at_ hkn;obtain⟨xs,xq,xt,xa,xb,xc,xd,HX,hwf,x0,x1,x2,x3,x4,x5,x6⟩:=rA.read HS.out HFr.out.xt hkn;have hxg:aU xc:=hwf.2.2.2.2.1;clear hwf;go_upto_region 5 with (fail)
   obtain⟨w2,hw2⟩:=nm ((wr.alloc (.cells #[A B xs,A B xq,A B xt,A B xa,A B xb,A B xc,A B xd] 103)):World);have HF2:Bx (aA w w2 [(w.heap.size,#[C (some ⟨b,off,none⟩) nS cS,C AG nG cG],45),(wr.heap.size,#[A B xs,A B xq,A B xt,A B xa,A B xb,A B xc,A B xd],103)]):=⟨by rw[hw2];exact HFr.out.push _ _ rfl⟩
   have HO2:Bx (hZ w2 w.heap.size (C Ao no co) (ri t.sts c k)):=⟨by rw[hw2];exact HO.out.ext ((zE _).alloc _)⟩
   rw[<-hw2];clear hw2 x0 x1 x2 x3 x4 x5 x6 HFr HO;obtain⟨gx,hgx⟩:=nm wr.heap.size;rw[<-hgx]at HF2;rw[<-hgx];clear hgx;have y2:=(HF2.out.at_ 1 rfl).c 2 rfl;have y4:=(HF2.out.at_ 1 rfl).c 4 rfl;have y5:=(HF2.out.at_ 1 rfl).c 5 rfl;by_cases h1:xt=3/\xb=c;case neg =>
    have HEND:Bx (aA w w2 [(w.heap.size,#[C (some ⟨b,off,none⟩) nS cS,C AG nG cG],45)]/\hZ w2 w.heap.size (C Ao no co) (ri t.sts c (k+1))):=⟨by rw[Oi HX.out (by unfold Nd;simp only[Bool.and_eq_false_iff,decide_eq_false_iff_not];omega)];exact⟨HF2.out.take 1,HO2.out⟩⟩
    by_cases h2:xt=3
    ·have h3:(xb==c)=false:=by simp;omega
     subst h2;go_wp2_with fail;go_roundw
     case rel=>exact⟨k+1,by go_num,by omega,HEND⟩
     case measure=>simp[intOf];omega
    ·have h3:(xt==3)=false:=by simp;omega
     go_wp2_with fail;go_roundw
     case rel=>exact⟨k+1,by go_num,by omega,HEND⟩
     case measure=>simp[intOf];omega
   obtain⟨rfl,rfl⟩:=h1;have HPUT:=zZ (Ps (c:=xb) HX.out (by unfold Nd;simp));have hxb:(xb==xb)=true:=by simp
   go_wp2_with (at_builtin;refine aF _ rfl (.tmp 25) (.tmp 29) 22 rfl w.heap.size 3 i0 _ 8 Tryz.underlying22 hi0 hz0 hz1 hz2 rfl (C Ao no co) _ _ rfl (ao HO2.out.1 ((zE _).alloc _)) _ _ rfl (by simp;rfl) rfl (by have:=HNO.out;omega) (by omega) (by have:=HF2.out.xt.size;simp;omega) ?_;intro v5 w5 hown5 hg5;have HF5:=zZ ((HF2.out.ext ((zE _).alloc _)).grownT (ao HO2.out.1 ((zE _).alloc _)) hg5 (zX _) rfl);have HO5:=zZ hown5;clear hown5 hg5);go_roundw
   case rel =>
    refine⟨k+1,by go_num,by omega,⟨⟨HF5.out.take 1,?_⟩⟩⟩;rw[HPUT.out];have h5:=HO5.out;refine⟨by simpa using h5,fun z hz=>?_,by simp;have:=HNO.out;omega⟩;rcases zM.1 hz with hz|hz
    ·exact HO2.out.2.1 z hz
    ·obtain rfl:z=xc:=by simpa using hz
     exact hxg
   case measure=>simp[intOf];omega
  ·obtain rfl:k=nS:=by omega
   have HC:=zZ (O4 (l:=t.sts) (c:=c) HL.out);have HF1:=HFr;go_wp2_with (first
    |(refine (O2 _ _ _ HO.out).mono ?_;rintro e w3 ⟨rfl,hv3,hg3⟩;have HV3:=zZ hv3;have HF3:=zZ (HFr.out.grownT HO.out.1 hg3 (zX _) rfl);clear hv3 hg3)
    |(refine (NF _ _ _ HV3.out).mono ?_;rintro e w4 ⟨⟨v4,rfl,hv4⟩,hg4⟩;have HV4:=zZ hv4;have HF4:=zZ (HF3.out.grownT HV3.out.1 hg4 (zX _) rfl);clear hv4 hg4))
   go_ret
   exact⟨⟨v4,rfl,by rw[<-HC.out];exact HV4.out⟩,HF4.out.xt⟩
end Go.Proofs.YtpaidaphacoblaaGreatDoor

namespace Go.Proofs.YtpaidaphacoblaaGreatDoor
open Go.Value renaming int→A,slice→C
open Go.IntKind renaming i64→B
open Go.RowKit _root_.Go.Proofs.Tryz
variable {p:Nat}
section
variable {l:List Pg} {c:Int} {k:Nat} {x:Pg}
theorem Pi(h:dG l c (k:Int)=some x):a8 l c (k+1)=a8 l c k:=by unfold a8;rw[ik (α:=Nat)];simp[h]
theorem O6(h:dG l c (k:Int)=none):a8 l c (k+1)=a8 l c k++[(k:Int)]:=by unfold a8;rw[ik (α:=Nat)];simp[h]
theorem Og(l:List Pg)(c:Int)(k:Nat):(a8 l c k).length<=k:=by unfold a8;exact yR (uV _ _) (by simp)
end
section
variable {s:dl} {i:r6} {x:fv}
theorem PK(h:lb i.sts x.cand≠[]):gt s i x=⟨x.cand,3,lb i.sts x.cand⟩:=by unfold gt;rw[if_pos h]
theorem PV(h:lb i.sts x.cand=[])(h2:a8 i.pgs x.cand (F9 s x.var)=[]):gt s i x=⟨x.cand,1,[]⟩:=by unfold gt;rw[if_neg (by simp[h]),if_pos h2]
theorem QV(h:lb i.sts x.cand=[])(h2:a8 i.pgs x.cand (F9 s x.var)≠[])(h3:(a8 i.pgs x.cand (F9 s x.var)).length=F9 s x.var):gt s i x=⟨x.cand,4,[]⟩:=by unfold gt;rw[if_neg (by simp[h]),if_neg h2,if_pos h3]
theorem PU(h:lb i.sts x.cand=[])(h2:a8 i.pgs x.cand (F9 s x.var)≠[])(h3:(a8 i.pgs x.cand (F9 s x.var)).length≠F9 s x.var):gt s i x=⟨x.cand,2,a8 i.pgs x.cand (F9 s x.var)⟩:=by unfold gt;rw[if_neg (by simp[h]),if_neg h2,if_neg h3]
theorem OE{α:Type}{l:List α}:l=[]↔l.length=0:=⟨fun h=>by rw[h];rfl,xZ⟩
end
def Q3(w:World)(x:P6)(e:Ending)(w':World):Prop:=(∃vp,e=.returned (.agg #[A B x.cand,A B x.state,vp])/\hZ w' w.heap.size vp x.pgs)/\ab w w'
theorem Mp(v vi:Value)(s:dl)(t:r6)(xa xb xd:Int)(w:World)(hp:p<w.heap.size)(hs:aR p w v s)(ht:aK p w vi t)(hok:dU s)(ha:iT dW t.pgs)(hx:(⟨xa,xb,xd⟩:fv)∈s.xp)(hn1:t.sts.length<=1000)(hn2:t.pgs.length<=1000) :
  Calls prog 44 #[v,vi,.agg #[A B xa,A B xb,A B xd]] w (Q3 w (gt s t ⟨xa,xb,xd⟩)):=by
 obtain⟨i0,hi0,hz0,hz1,hz2⟩:=info_parts Tryz.infoI;have HT0:=zZ ht;obtain⟨vP,vB,vX,rfl,hP,hB,hX,hnum⟩:=hs;obtain⟨AP,nP,cP,rfl,-⟩:=hP.open_;obtain⟨AB,nB,cB,rfl,hnB,hcB,hmB,HLB⟩:=hB.open_;obtain⟨AX,nX,cX,rfl,-⟩:=hX.open_;obtain⟨vS,vG,rfl,hS,hG⟩:=ht;obtain⟨AS,nS,cS,rfl,-⟩:=hS.open_;obtain⟨AG,nG,cG,rfl,-⟩:=hG.open_;have hxb:=rL hok hx;simp only at hxb;obtain⟨xb1,xb2,xb3,xb4,xb5,xb6⟩:=hxb;obtain⟨pq,bk,hpq,hbk,hbb,-,-,-⟩:=rT hok xb3 xb4;have hbn:bk.length<=1000:=by have:=(J0 hbb).2.1;omega
 have hnp:F9 s xd=bk.length:=by unfold F9;rw[hbk];rfl
 have hbks:=hok.bks;obtain⟨r,rfl⟩:=zG xb3;rw[yC]at hpq hbk;have hrB:r<nB:=by have:=HLB.out;omega
 obtain⟨bB,oB,_,_,rfl,-⟩:=hB.at_ hrB;have HB0:=zZ hB;have HBK:=zZ hbk;have HNP:=zZ hnp;have HA:=zZ ha;have HN:Bx (t.sts.length<=1000/\t.pgs.length<=1000/\bk.length<=1000):=⟨⟨hn1,hn2,hbn⟩⟩
 clear hP hB hX hnum hS hG hok hx hpq hbk hbb hbn hnp hbks ha hn1 hn2 HLB;obtain⟨w1,hw1⟩:=nm (((((w.alloc (.cells #[A B s.num,C AP nP cP,C (some ⟨bB,oB,none⟩) nB cB,C AX nX cX] 29)).alloc (.cells #[C AS nS cS,C AG nG cG] 45)).alloc (.cells #[A B xa,A B xb,A B (r:Int)] 56)).alloc (.cells #[A B 0,A B 0,C none 0 0] 72)):World);have HF:Bx (aA w w1 [(w.heap.size,#[A B s.num,C AP nP cP,C (some ⟨bB,oB,none⟩) nB cB,C AX nX cX],29),(w.heap.size+1,#[C AS nS cS,C AG nG cG],45),(w.heap.size+1+1,#[A B xa,A B xb,A B (r:Int)],56),(w.heap.size+1+1+1,#[A B 0,A B 0,C none 0 0],72)]):=⟨by rw[hw1];exact ((((aA.start w).push _ _ rfl).push _ _ (by simp)).push _ _ (by simp)).push _ _ (by simp)⟩
 go_enter func44,ntmps44
 go_upto_region 1 with (fail)
 rw[<-hw1];clear hw1;have i0':=(HF.out.at_ 1 rfl).c 0 rfl;have i1':=(HF.out.at_ 1 rfl).c 1 rfl;have x0:=(HF.out.at_ 2 rfl).c 0 rfl;go_upto_region 2 with (go_at_call 81;refine (Ns _ t xa _ (p:=p) (zB hp HF.out.xt.size) (HT0.out.ext HF.out.xt) HN.out.1).mono ?_;rintro e w2 ⟨⟨v2,rfl,hv2⟩,hx2⟩)
 have HF2:=bx (HF.out.ext hx2);have HV2:Bx (hZ w2 w.heap.size v2 (lb t.sts xa)):=⟨hv2.base_ HF.out.xt.size⟩
 obtain⟨A2,c2,rfl⟩:=hv2.form;obtain⟨n2,hn2⟩:=nm ((lb t.sts xa).length);have hn2b:n2<=1000000:=by rw[hn2];exact hv2.2.2
 rw[<-hn2]at HV2;rw[<-hn2];have HN2:=zZ hn2;clear hn2 hv2 HF hx2 i0' i1' x0;have x0:=(HF2.out.at_ 2 rfl).c 0 rfl;have x2:=(HF2.out.at_ 2 rfl).c 2 rfl;have s2:=(HF2.out.at_ 0 rfl).c 2 rfl;by_cases h0:0<n2
 ·have HE:=zZ (PK (s:=s) (i:=t) (x:=⟨xa,xb,(r:Int)⟩) (show lb t.sts xa≠[] by intro e;have:=HN2.out;rw[e]at this;simp at this;omega));obtain⟨r0,r1,r2⟩:=(HF2.out.at_ 3 rfl).p3 rfl;have f0:=(HF2.out.at_ 3 rfl).froz;have f1:=f0;have f2:=f0;go_wp2_with fail;have h9:=HF2.out.setAll 3 rfl [A B xa,A B 3,C A2 n2 c2] rfl;have h8:=HV2.out.sets (HF2.out.at_ 3 rfl) (by decide) 0 [A B xa,A B 3,C A2 n2 c2];refine bodyPost_ret (v:=.agg #[A B xa,A B 3,C A2 n2 c2]) (by simp[results,results44,go_sem,r0,r1,r2]) rfl ⟨⟨C A2 n2 c2,by rw[HE.out],by rw[HE.out];exact h8⟩,h9.xt⟩
 obtain rfl:n2=0:=by omega
 have HCO:=zZ (OE.2 HN2.out.symm);obtain⟨Ab,nb,cb,b0,-,HNB⟩:=lJ HB0.out HBK.out HF2.out.xt.xt;have hnb:nb<=1000:=by have:=HNB.out;have:=HN.out.2.2;omega
 clear h0 hn2b HV2;go_wp2_with fail;clear b0 x0 x2 s2;go_loopw [8,33] (fun s8 s33 wr=>∃k:Nat,s33=A B k/\k<=nb/\Bx (aA w wr [(w.heap.size,#[A B s.num,C AP nP cP,C (some ⟨bB,oB,none⟩) nB cB,C AX nX cX],29),(w.heap.size+1,#[C AS nS cS,C AG nG cG],45),(w.heap.size+1+1,#[A B xa,A B xb,A B (r:Int)],56),(w.heap.size+1+1+1,#[A B 0,A B 0,C none 0 0],72)]/\hZ wr w.heap.size s8 (a8 t.pgs xa k))) (fun _ k _=>nb-(intOf k).toNat)
 case atStart=>exact⟨0,rfl,by omega,⟨⟨HF2.out,by simpa[a8] using hZ.nil w2 w.heap.size⟩⟩⟩
 case round =>
  obtain⟨k,rfl,hk,HR⟩:=hrel;have HFr:Bx (aA w wr [(w.heap.size,#[A B s.num,C AP nP cP,C (some ⟨bB,oB,none⟩) nB cB,C AX nX cX],29),(w.heap.size+1,#[C AS nS cS,C AG nG cG],45),(w.heap.size+1+1,#[A B xa,A B xb,A B (r:Int)],56),(w.heap.size+1+1+1,#[A B 0,A B 0,C none 0 0],72)]):=⟨HR.out.1⟩
  have HO:Bx (hZ wr w.heap.size _ (a8 t.pgs xa k)):=⟨HR.out.2⟩
  obtain⟨Ao,co,hu⟩:=HO.out.form;obtain⟨no,hno⟩:=nm ((a8 t.pgs xa k).length);have hnok:no<=k:=by rw[hno];exact Og _ _ _
  have HNO:=zZ hno;rw[<-hno]at hu;subst hu;clear HR HF2 hno;by_cases hkn:k<nb
  ·have i0':=(HFr.out.at_ 1 rfl).c 0 rfl;have i1':=(HFr.out.at_ 1 rfl).c 1 rfl;have x0:=(HFr.out.at_ 2 rfl).c 0 rfl;go_upto_region 10 with (go_at_call 46;refine (ke _ t xa (k:Int) _ (p:=p) (HT0.out.ext HFr.out.xt) HA.out (by have:=HN.out.2.1;omega)).mono ?_;rintro e w3 ⟨yc,yg,yt,ys,yq,ych,yA,yn,ycc,rfl,-,-,-,hx3⟩)
   obtain⟨w4,hw4⟩:=nm ((w3.alloc (.cells #[A B yc,A B yg,A B yt,C yA yn ycc,A B ys,A B yq] 80)):World);have hx4:ab wr w4:=by rw[hw4];exact hx3.alloc _
   rw[<-hw4];have HF4:=bx (HFr.out.ext hx4);have HO4:=bx (HO.out.ext hx4);clear hw4 hx4 hx3 HFr HO i0' i1' x0;cases hpf:dG t.pgs xa (k:Int) with
   |some y =>
    have HM:=zZ (Pi hpf);clear hpf;go_wp2_with fail;go_roundw
    case rel=>exact⟨k+1,by go_num,by omega,⟨⟨HF4.out,by rw[HM.out];exact HO4.out⟩⟩⟩
    case measure=>simp[intOf];omega
   |none =>
    have HM:=zZ (O6 hpf);clear hpf;go_wp2_with (at_builtin;refine aF _ rfl (.tmp 46) (.tmp 48) 22 rfl w.heap.size 3 i0 _ 8 underlying22 hi0 hz0 hz1 hz2 rfl (C Ao no co) _ _ rfl (ao HO4.out.1 ((zE _).alloc _)) _ _ rfl (by simp;rfl) rfl (by have:=HNO.out;omega) (by omega) (by have:=HF4.out.xt.size;simp;omega) ?_;intro v5 w5 hown5 hg5;have HF5:=zZ ((HF4.out.ext ((zE _).alloc _)).grownT (ao HO4.out.1 ((zE _).alloc _)) hg5 (zX _) rfl);have HO5:=zZ hown5;clear hown5 hg5);go_roundw
    case rel =>
     refine⟨k+1,by go_num,by omega,⟨⟨HF5.out,?_⟩⟩⟩;rw[HM.out];have h5:=HO5.out;refine⟨by simpa using h5,fun z hz=>?_,by simp;have:=HNO.out;omega⟩;rcases zM.1 hz with hz|hz
     ·exact HO4.out.2.1 z hz
     ·obtain rfl:z=(k:Int):=by simpa using hz
      exact⟨by omega,by omega⟩
    case measure=>simp[intOf];omega
  ·obtain rfl:k=nb:=by omega
   have HNK:=zZ (show F9 s (r:Int)=k by rw[HNP.out,HNB.out]);have x0:=(HFr.out.at_ 2 rfl).c 0 rfl;obtain⟨r0,r1,r2⟩:=(HFr.out.at_ 3 rfl).p3 rfl;have f0:=(HFr.out.at_ 3 rfl).froz;have f1:=f0;have f2:=f0;by_cases h1:no=0
   ·have HE:=zZ (PV (s:=s) (x:=⟨xa,xb,(r:Int)⟩) HCO.out (by simp only[HNK.out];exact OE.2 (by rw[<-HNO.out,h1])));subst h1;go_wp2_with fail;have h9:=HFr.out.setAll 3 rfl [A B xa,A B 1,C none 0 0] rfl;refine bodyPost_ret (v:=.agg #[A B xa,A B 1,C none 0 0]) (by simp[results,results44,go_sem,r0,r1,r2]) rfl ⟨⟨C none 0 0,by rw[HE.out],by rw[HE.out];exact hZ.nil _ _⟩,h9.xt⟩
   have hno0:((no:Int)==0)=false:=by simp;omega
   by_cases h2:no=k
   ·have HE:=zZ (QV (s:=s) (x:=⟨xa,xb,(r:Int)⟩) HCO.out (by simp only[HNK.out];intro e;have:=HNO.out;rw[e]at this;simp at this;omega) (by simp only[HNK.out];rw[<-HNO.out,h2]));subst h2;have hnok:((no:Int)==(no:Int))=true:=by simp
    go_wp2_with fail;have h9:=HFr.out.setAll 3 rfl [A B xa,A B 4,C none 0 0] rfl;refine bodyPost_ret (v:=.agg #[A B xa,A B 4,C none 0 0]) (by simp[results,results44,go_sem,r0,r1,r2]) rfl ⟨⟨C none 0 0,by rw[HE.out],by rw[HE.out];exact hZ.nil _ _⟩,h9.xt⟩
   ·have HE:=zZ (PU (s:=s) (x:=⟨xa,xb,(r:Int)⟩) HCO.out (by simp only[HNK.out];intro e;have:=HNO.out;rw[e]at this;simp at this;omega) (by simp only[HNK.out];rw[<-HNO.out];exact h2));simp only[HNK.out]at HE;have hnok2:((no:Int)==(k:Int))=false:=by simp;omega
    go_wp2_with fail;have h9:=HFr.out.setAll 3 rfl [A B xa,A B 2,C Ao no co] rfl;have h8:=HO.out.sets (HFr.out.at_ 3 rfl) (by decide) 0 [A B xa,A B 2,C Ao no co];refine bodyPost_ret (v:=.agg #[A B xa,A B 2,C Ao no co]) (by simp[results,results44,go_sem,r0,r1,r2]) rfl ⟨⟨C Ao no co,by rw[HE.out],by rw[HE.out];exact h8⟩,h9.xt⟩
theorem O1{s:dl}{t:r6}(h:aC s≠0):gq s t=false:=by unfold gq;rw[decide_eq_false h];rfl
theorem Qz{s:dl}{t:r6}(h:wE t.sts=false):gq s t=false:=by unfold gq;rw[h];simp
theorem PL{s:dl}{t:r6}(h:Lm t.sts≠t.pgs.length):gq s t=false:=by unfold gq;rw[decide_eq_false h];simp
theorem og{s:dl}{t:r6}{k:Nat}(hk:k<t.pgs.length)(h:LG s t.sts t.pgs k=false):gq s t=false:=by unfold gq;rw[hJ hk h];simp
theorem Qb{s:dl}{t:r6}(h1:aC s=0)(h2:wE t.sts=true)(h3:Lm t.sts=t.pgs.length)(h4:∀k,k<t.pgs.length->LG s t.sts t.pgs k=true):gq s t=true:=by unfold gq;rw[decide_eq_true h1,h2,decide_eq_true h3,j9 h4];rfl
theorem Nl{s:dl}{sts:List dF}{q:Pg}(h:fo s.xp q.cand=none):JV s sts q=false:=by unfold JV;rw[h]
theorem MR{s:dl}{sts:List dF}{q:Pg}(h:Ku sts q.scan=none):JV s sts q=false:=by unfold JV;rw[h];cases fo s.xp q.cand<;>rfl
theorem Mz{s:dl}{sts:List dF}{q:Pg}{x:fv}{y:dF}(h1:fo s.xp q.cand=some x)(h2:Ku sts q.scan=some y) :
  JV s sts q=(decide (y.state=1)&&(decide (y.lab=⟨s.num,q.cand,q.page,x.var⟩)&&bH s ⟨s.num,q.cand,q.page,x.var⟩ q.ch)):=by unfold JV;rw[h1,h2]
theorem N9{l:List dF}(h:wE l=true):iT bU l:=CQ (i:=⟨l,[]⟩) fun k hk=>Ml h hk
theorem Ms(v vi:Value)(s:dl)(t:r6)(w:World)(hp:p<w.heap.size)(hs:aR p w v s)(ht:aK p w vi t)(hn1:t.sts.length<=1000)(hn2:t.pgs.length<=1000) :
  Calls prog 42 #[v,vi] w fun e w'=>e=.returned (.bool (gq s t))/\ab w w':=by
 have HS0:=zZ hs;obtain⟨vP,vB,vX,rfl,hP,hB,hX,hnum⟩:=hs;obtain⟨AP,nP,cP,rfl,-⟩:=hP.open_;obtain⟨AB,nB,cB,rfl,-⟩:=hB.open_;obtain⟨AX,nX,cX,rfl,-⟩:=hX.open_;obtain⟨vS,vG,rfl,hS,hG⟩:=ht;obtain⟨AS,nS,cS,rfl,hncS,hccS,hnnS,HLS⟩:=hS.open_;obtain⟨AG,nG,cG,rfl,hncG,hccG,hnnG,HLG⟩:=hG.open_;have HS:Bx (rA p w (C AS nS cS) t.sts):=⟨hS⟩
 have HG:Bx (Ce p w (C AG nG cG) t.pgs):=⟨hG⟩
 have HNUM:Bx (aU s.num):=⟨hnum⟩
 have hnS:nS<=1000:=by have:=HLS.out;omega
 have hnG:nG<=1000:=by have:=HLG.out;omega
 clear hP hB hX hnum hS hG hn1 hn2;obtain⟨w1,hw1⟩:=nm (((w.alloc (.cells #[A B s.num,C AP nP cP,C AB nB cB,C AX nX cX] 29)).alloc (.cells #[C AS nS cS,C AG nG cG] 45)):World);have HF:Bx (aA w w1 [(w.heap.size,#[A B s.num,C AP nP cP,C AB nB cB,C AX nX cX],29),(w.heap.size+1,#[C AS nS cS,C AG nG cG],45)]):=⟨by rw[hw1];exact ((aA.start w).push _ _ rfl).push _ _ (by simp)⟩
 go_enter func42,ntmps42
 go_upto_region 1 with (fail)
 rw[<-hw1];clear hw1;obtain⟨z0,z1,z2,z3⟩:=(HF.out.at_ 0 rfl).p4 rfl;go_wp2_with fail;refine (mf _ s _ (HS0.out.ext HF.out.xt)).mono ?_;rintro e w2 ⟨rfl,hx2⟩;have HF2:=bx (HF.out.ext hx2);clear HF hx2 z0 z1 z2 z3;by_cases hck:aC s=0;case neg =>
  have HE:=zZ (O1 (t:=t) hck);have hcb:(aC s != 0)=true:=by simp[hck]
  go_wp2_with fail;go_ret
  exact⟨aa HE.out.symm,HF2.out.xt⟩
 have HCK:=zZ hck;have HOK:Bx (dU s):=⟨iL.1 hck⟩
 rw[hck];clear hck;have b0:=(HF2.out.at_ 1 rfl).c 0 rfl;go_wp2_with fail;refine (MX _ t.sts _ (HS.out.ext (cU.stab p) HF2.out.xt) (by have:=HLS.out;omega)).mono ?_;rintro e w3 ⟨⟨u,rfl,hu⟩,hx3⟩;have HF3:=bx (HF2.out.ext hx3);have HU:=zZ hu;clear HF2 hx3 b0 hu;have b1:=(HF3.out.at_ 1 rfl).c 1 rfl;cases hst:wE t.sts with
 |false =>
  have HE:=zZ (Qz (s:=s) hst);clear hst;go_wp2_with fail;go_ret
  exact⟨aa HE.out.symm,HF3.out.xt⟩
 |true =>
 have HST:=zZ hst;have HAS:=zZ (N9 hst);have HU2:=zZ (HU.out hst);clear hst HU;by_cases hun:u=nG;case neg =>
  have HE:=zZ (PL (s:=s) (t:=t) (by rw[<-HU2.out,HLG.out];exact hun));have hub:((u:Int)!=(nG:Int))=true:=by simp;omega
  go_wp2_with fail;all_goals first
   |(exfalso;omega)
   |(go_ret;exact⟨aa HE.out.symm,HF3.out.xt⟩)
 subst hun;have HUS:=zZ (show Lm t.sts=t.pgs.length by rw[<-HU2.out,HLG.out]);have hub:((u:Int)!=(u:Int))=false:=by simp
 clear HU2;go_wp2_with fail;clear b1 hub;go_loopw [34] (fun s34 wr=>∃k:Nat,s34=A B k/\k<=u/\Bx (aA w wr [(w.heap.size,#[A B s.num,C AP nP cP,C AB nB cB,C AX nX cX],29),(w.heap.size+1,#[C AS nS cS,C AG u cG],45)]/\∀j,j<k->LG s t.sts t.pgs j=true)) (fun k _=>u-(intOf k).toNat)
 case atStart=>exact⟨0,rfl,by omega,⟨⟨HF3.out,fun j hj=>by omega⟩⟩⟩
 case round =>
  obtain⟨k,rfl,hk,HR⟩:=hrel;have HFr:Bx (aA w wr [(w.heap.size,#[A B s.num,C AP nP cP,C AB nB cB,C AX nX cX],29),(w.heap.size+1,#[C AS nS cS,C AG u cG],45)]):=⟨HR.out.1⟩
  have HA:Bx (∀j,j<k->LG s t.sts t.pgs j=true):=⟨HR.out.2⟩
  clear HR HF3;by_cases hkn:k<u
  ·obtain⟨bG,oG,_,_,rfl,-⟩:=HG.out.at_ hkn;obtain⟨xc,xg,xt,xs,xq,xch,xA,xm,xcc,HX,hwf,hI,x0,x1,x2,x3,x4,x5⟩:=Ce.read HG.out HFr.out.xt hkn;have HI:=zZ hI;have HWF:=zZ hwf;have HKL:=zZ (show k<t.pgs.length by have:=HLG.out;omega);clear hI hwf;go_upto_region 9 with (fail)
   have hx2:ab wr (wr.alloc (.cells #[A B xc,A B xg,A B xt,C xA xm xcc,A B xs,A B xq] 80)):=(zE _).alloc _;obtain⟨w2,hw2⟩:=nm ((wr.alloc (.cells #[A B xc,A B xg,A B xt,C xA xm xcc,A B xs,A B xq] 80)):World);have HF2:Bx (aA w w2 [(w.heap.size,#[A B s.num,C AP nP cP,C AB nB cB,C AX nX cX],29),(w.heap.size+1,#[C AS nS cS,C (some ⟨bG,oG,none⟩) u cG],45),(wr.heap.size,#[A B xc,A B xg,A B xt,C xA xm xcc,A B xs,A B xq],80)]):=⟨by rw[hw2];exact HFr.out.push _ _ rfl⟩
   rw[<-hw2]at hx2;rw[<-hw2];clear hw2;obtain⟨gp,hgp⟩:=nm wr.heap.size;rw[<-hgp]at HF2;rw[<-hgp];clear hgp x0 x1 x2 x3 x4 x5;obtain⟨y0,y1,y2,y3,y4,y5⟩:=(HF2.out.at_ 2 rfl).p6 rfl;have b1:=(HF2.out.at_ 1 rfl).c 1 rfl;have HXW:=bx (HFr.out.xt);clear HFr;have key:∀(w5:World) (lt:Bool),lt=true->True:=fun _ _ _=>trivial;clear key;rcases vE k with hk0|hk0
   ·subst hk0;have HPG:=zZ (PZ (s:=s) (sts:=t.sts) HX.out);refine zQ 99 fun wd kS=>?_;refine zS 16 [(0,39),(1,40),(2,41),(3,42),(4,43),(5,44),(6,45),(7,46),(8,47),(9,48),(10,49),(11,50),(12,51),(13,52),(14,53),(15,54)] kS ?_;iterate 3 refine zT ?_ (y:=by intro wk hk;obtain⟨_,_,_⟩:=zkc3 hk b1 y0 y1;go_simp;try with_reducible rfl)
    iterate 12 (apply zK;exact⟨rfl,rfl⟩;simp only[kA];exact rfl)
    refine zT ?_ (y:=by intro wk hk;obtain⟨_,_,_⟩:=zkc3 hk b1 y0 y1;go_simp;try with_reducible rfl);refine zN (zD ?_);have HFd:=bx (HF2.out.ext kS);have HId:=zZ ((HI.out.ext hx2).ext kS);clear kS y0 y1 y2 y3 y4 y5 b1 HF2 hx2;obtain⟨z0,z1,z2,z3⟩:=(HFd.out.at_ 0 rfl).p4 rfl;have y0:=(HFd.out.at_ 2 rfl).c 0 rfl;go_wp2_with fail;refine (kR _ s xc _ (HS0.out.ext HFd.out.xt) HOK.out).mono ?_;rintro e w5 ⟨⟨fa,fb,fd,rfl,hfx0⟩,hx5⟩;have HFX:=zZ hfx0;have HF5:=bx (HFd.out.ext hx5);clear hfx0 z0 z1 z2 z3 y0;cases hfx:fo s.xp xc with
    |none =>
     have HE:=zZ (show gq s t=false from og HKL.out (by rw[HPG.out];exact Nl hfx));clear hfx;go_wp2_with fail;go_ret
     exact⟨aa HE.out.symm,HF5.out.xt.alloc _⟩
    |some x0 =>
     obtain rfl:x0=⟨fa,fb,fd⟩:=by have:=HFX.out;rw[hfx]at this;exact this
     have HFS:=zZ hfx;have hxb:=rL HOK.out (qR hfx).1;simp only at hxb;have HFV:Bx (aU fd):=⟨⟨by omega,by have:=HOK.out.len;omega⟩⟩
     clear hfx HFX hxb;go_upto_region 14 with (fail)
     obtain⟨w6,hw6⟩:=nm ((w5.alloc (.cells #[A B fa,A B fb,A B fd] 56)):World);have HF6:Bx (aA w w6 [(w.heap.size,#[A B s.num,C AP nP cP,C AB nB cB,C AX nX cX],29),(w.heap.size+1,#[C AS nS cS,C (some ⟨bG,oG,none⟩) u cG],45),(gp,#[A B xc,A B xg,A B xt,C xA xm xcc,A B xs,A B xq],80),(w5.heap.size,#[A B fa,A B fb,A B fd],56)]):=⟨by rw[hw6];exact HF5.out.push _ _ rfl⟩
     have hx6:ab wd w6:=by rw[hw6];exact hx5.alloc _
     rw[<-hw6];clear hw6 HF5 HFd hx5;obtain⟨gx,hgx⟩:=nm w5.heap.size;rw[<-hgx]at HF6;rw[<-hgx];clear hgx;have z0:=(HF6.out.at_ 0 rfl).c 0 rfl;obtain⟨y0,y1⟩:=(HF6.out.at_ 2 rfl).p2 rfl;have f2:=(HF6.out.at_ 3 rfl).c 2 rfl;go_upto_region 15 with (fail)
     obtain⟨w7,hw7⟩:=nm ((w6.alloc (.cells #[A B s.num,A B xc,A B xg,A B fd] 39)):World);have HF7:Bx (aA w w7 [(w.heap.size,#[A B s.num,C AP nP cP,C AB nB cB,C AX nX cX],29),(w.heap.size+1,#[C AS nS cS,C (some ⟨bG,oG,none⟩) u cG],45),(gp,#[A B xc,A B xg,A B xt,C xA xm xcc,A B xs,A B xq],80),(gx,#[A B fa,A B fb,A B fd],56),(w6.heap.size,#[A B s.num,A B xc,A B xg,A B fd],39)]):=⟨by rw[hw7];exact HF6.out.push _ _ rfl⟩
     have hx7:ab wd w7:=by rw[hw7];exact hx6.alloc _
     rw[<-hw7];clear hw7 HF6 hx6 z0 y0 y1 f2;obtain⟨gl,hgl⟩:=nm w6.heap.size;rw[<-hgl]at HF7;rw[<-hgl];clear hgl;have b0:=(HF7.out.at_ 1 rfl).c 0 rfl;have y4:=(HF7.out.at_ 2 rfl).c 4 rfl;have y5:=(HF7.out.at_ 2 rfl).c 5 rfl;go_wp2_with fail;refine (OB _ t.sts xs xq _ (HS.out.ext (cU.stab p) HF7.out.xt) (NG HAS.out xs xq) (by have:=HLS.out;omega)).mono ?_;rintro e w8 ⟨⟨i,b,rfl,hfd⟩,hx8⟩;have HFD:=zZ (OK HAS.out hfd);have hib:i<=nS:=by have:=hfd.1;have:=HLS.out;omega
     have HF8:=bx (HF7.out.ext hx8);have HI8:=zZ (HId.out.ext (hx7.trans hx8));clear hfd HF7 hx7 hx8 b0 y4 y5 HId;go_upto_region 16 with (fail)
     cases b with
     |false =>
      have HE:=zZ (show gq s t=false from og HKL.out (by rw[HPG.out];exact MR (HFD.out.2 rfl)));refine zQ 99 fun we kS=>?_;refine zS 21 [(0,81),(1,82),(2,83),(3,84),(4,85),(5,86),(6,87),(7,88),(8,89),(9,90),(10,91),(11,92),(12,93),(13,94),(14,95),(15,96),(16,97),(17,98),(18,99),(19,100),(20,101)] kS ?_;iterate 3 refine zT ?_
      iterate 7 (apply zK;exact⟨rfl,rfl⟩;simp only[kA];exact rfl)
      iterate 2 refine zT ?_
      iterate 8 (apply zK;exact⟨rfl,rfl⟩;simp only[kA];exact rfl)
      refine zT ?_;refine zN (zD ?_);go_wp2_with fail;go_ret
      exact⟨aa HE.out.symm,HF8.out.xt.trans kS⟩
     |true =>
      obtain⟨x9,hxi,hfy⟩:=HFD.out.1 rfl;have hiS:i<nS:=by have:=(zY.1 hxi).1;have:=HLS.out;omega
      obtain⟨bS,oS,_,_,rfl,-⟩:=HS.out.at_ hiS;obtain⟨qs,qq,qt,qa,qb,qc,qd,HQ,-,q0,q1,q2,q3,q4,q5,q6⟩:=rA.read HS.out HF8.out.xt hiS;obtain rfl:x9=⟨⟨qs,qq⟩,qt,⟨qa,qb,qc,qd⟩⟩:=by have:=HQ.out;rw[hxi]at this;injection this
      have HPB:=zZ (Mz (s:=s) (q:=⟨xc,xg,xt,xch,⟨xs,xq⟩⟩) HFS.out hfy);clear hxi hfy HFD HQ q0 q1;have b0:=(HF8.out.at_ 1 rfl).c 0 rfl;by_cases hq1:qt=1;case neg =>
       have HE:=zZ (show gq s t=false from og HKL.out (by rw[HPG.out,HPB.out];simp[hq1]));have hqb:(qt != 1)=true:=by simp[hq1]
       refine zQ 99 fun we kS=>?_;refine zS 21 [(0,81),(1,82),(2,83),(3,84),(4,85),(5,86),(6,87),(7,88),(8,89),(9,90),(10,91),(11,92),(12,93),(13,94),(14,95),(15,96),(16,97),(17,98),(18,99),(19,100),(20,101)] kS ?_;iterate 12 refine zT ?_ (y:=by intro wk hk;obtain⟨_,_⟩:=zkc2 hk b0 q2;go_simp;try with_reducible rfl)
       iterate 8 (apply zK;exact⟨rfl,rfl⟩;simp only[kA];exact rfl)
       refine zT ?_ (y:=by intro wk hk;obtain⟨_,_⟩:=zkc2 hk b0 q2;go_simp;try with_reducible rfl);refine zN (zD ?_);go_wp2_with fail;go_ret
       exact⟨aa HE.out.symm,HF8.out.xt.trans kS⟩
      have hqb:(qt != 1)=false:=by simp[hq1]
      obtain⟨l0,l1,l2,l3⟩:=(HF8.out.at_ 4 rfl).p4 rfl;have eL:∀W,(Op.equalIn 10000 39 (.agg #[A B qa,A B qb,A B qc,A B qd]) (.agg #[A B s.num,A B xc,A B xg,A B fd])).run prog W=.ok (decide (qa=s.num/\qb=xc/\qc=xg/\qd=fd)) W:=fun W=>ox _ _ _ _ _ _ _ _ W;have gL:=ij;by_cases hle:qa=s.num/\qb=xc/\qc=xg/\qd=fd;case neg =>
       rw[decide_eq_false hle]at eL;have HE:=zZ (show gq s t=false from og HKL.out (by rw[HPG.out,HPB.out];have:(⟨qa,qb,qc,qd⟩:cJ)≠⟨s.num,xc,xg,fd⟩:=fun e=>hle (by injection e with e1 e2 e3 e4;exact⟨e1,e2,e3,e4⟩);simp only[decide_eq_false this,Bool.false_and,Bool.and_false]))
       clear hle;refine zQ 99 fun we kS=>?_;refine zS 21 [(0,81),(1,82),(2,83),(3,84),(4,85),(5,86),(6,87),(7,88),(8,89),(9,90),(10,91),(11,92),(12,93),(13,94),(14,95),(15,96),(16,97),(17,98),(18,99),(19,100),(20,101)] kS ?_;iterate 21 refine zT ?_ (y:=by intro wk hk;obtain⟨_,_,_,_,_,_,_,_⟩:=zkc8 hk b0 q2 q3 q4 q5 q6 l0 l1;obtain⟨_,_⟩:=zkc2 hk l2 l3;go_simp;try with_reducible rfl)
       refine zN (zD ?_);go_wp2_with fail;go_ret
       exact⟨aa HE.out.symm,HF8.out.xt.trans kS⟩
      rw[decide_eq_true hle]at eL;have HPF:=zZ (show LG s t.sts t.pgs 0=bH s ⟨s.num,xc,xg,fd⟩ xch by
       rw[HPG.out,HPB.out];have:(⟨qa,qb,qc,qd⟩:cJ)=⟨s.num,xc,xg,fd⟩:=by obtain⟨e1,e2,e3,e4⟩:=hle;rw[e1,e2,e3,e4]
       simp only[decide_eq_true this,decide_eq_true hq1,yK])
      clear hle;refine zQ 99 fun we kS=>?_;refine zS 21 [(0,81),(1,82),(2,83),(3,84),(4,85),(5,86),(6,87),(7,88),(8,89),(9,90),(10,91),(11,92),(12,93),(13,94),(14,95),(15,96),(16,97),(17,98),(18,99),(19,100),(20,101)] kS ?_;iterate 21 refine zT ?_ (y:=by intro wk hk;obtain⟨_,_,_,_,_,_,_,_⟩:=zkc8 hk b0 q2 q3 q4 q5 q6 l0 l1;obtain⟨_,_⟩:=zkc2 hk l2 l3;go_simp;try with_reducible rfl)
      refine zN (zD ?_);have HF9:=bx (HF8.out.ext kS);have HI9:=zZ (HI8.out.ext kS);clear eL gL hqb hq1 b0 q2 q3 q4 q5 q6 l0 l1 l2 l3 kS HF8 HI8;obtain⟨z0,z1,z2,z3⟩:=(HF9.out.at_ 0 rfl).p4 rfl;obtain⟨l0,l1,l2,l3⟩:=(HF9.out.at_ 4 rfl).p4 rfl;have y3:=(HF9.out.at_ 2 rfl).c 3 rfl;go_wp2_with fail;refine (sH _ _ s s.num xc xg fd xch _ (p:=p) (q:=p) (zB hp HF9.out.xt.size) (HS0.out.ext HF9.out.xt) HI9.out ⟨HNUM.out,HWF.out.1,HWF.out.2.1,HFV.out⟩).mono ?_;rintro e wf ⟨rfl,hxf⟩;have hfi:eC s ⟨s.num,xc,xg,fd⟩ xch=bH s ⟨s.num,xc,xg,fd⟩ xch:=by unfold eC;rw[HCK.out];simp
      rw[hfi];have HFf:Bx (aA w wf [(w.heap.size,#[A B s.num,C AP nP cP,C AB nB cB,C AX nX cX],29),(w.heap.size+1,#[C (some ⟨bS,oS,none⟩) nS cS,C (some ⟨bG,oG,none⟩) u cG],45)]):=⟨(HF9.out.ext hxf).take 2⟩
      clear hfi z0 z1 z2 z3 l0 l1 l2 l3 y3 hxf HF9 HI9;cases hft:bH s ⟨s.num,xc,xg,fd⟩ xch with
      |false =>
       have HE:=zZ (show gq s t=false from og HKL.out (by rw[HPF.out];exact hft));go_wp2_with fail;go_ret
       exact⟨aa HE.out.symm,HFf.out.xt⟩
      |true =>
       have HT:=zZ (show LG s t.sts t.pgs 0=true by rw[HPF.out];exact hft);clear hft;go_wp2_with fail;go_roundw
       case rel=>exact⟨0+1,by go_num,by omega,⟨⟨HFf.out,fun j hj=>by rcases zU j 0 with h|h;exact HA.out j h;obtain rfl:j=0:=(by omega);exact HT.out⟩⟩⟩
       case measure=>simp[intOf];omega
   ·obtain⟨m,hm⟩:∃m,m+1=k:=⟨k-1,by omega⟩
    have hmn:m<u:=by omega
    obtain⟨zc,zg,zt,zs,zq,zch,zA,zm,zcc,HZ,-,-,z0,z1,z2,z3,z4,z5⟩:=Ce.read HG.out (HXW.out.trans hx2) hmn;have HSG:=zZ (show LG s t.sts t.pgs k=(dW ⟨zc,zg,zt,zch,⟨zs,zq⟩⟩ ⟨xc,xg,xt,xch,⟨xs,xq⟩⟩&&JV s t.sts ⟨xc,xg,xt,xch,⟨xs,xq⟩⟩) by rw[<-hm];exact PD (by rw[hm];exact HX.out) HZ.out);have m1:IntKind.i64.wrap ((k:Int)-1)=(m:Int):=by rw[yN _ (by omega)];omega
    have hkg:decide ((k:Int)>0)=true:=by simp;omega
    have hmm1:m+1<=k:=by omega
    have hmm2:k<=m+1:=by omega
    clear hm;refine zQ 99 fun wc kS=>?_;refine zS 13 [(0,39),(1,40),(2,41),(3,42),(4,43),(5,44),(6,45),(7,46),(8,47),(9,48),(10,49),(11,50),(12,51)] kS ?_;iterate 13 refine zT ?_ (y:=by intro wk hk;obtain⟨_,_,_,_,_,_,_,_⟩:=zkc8 hk b1 y0 y1 z0 z1 z2 z3 z4;have:=hk.cell z5;go_simp;try with_reducible rfl)
    refine zN (zO 13 (fun K hK=>?_));go_simp;refine (Mh zc zg zt zs zq xc xg zA zm zcc _).mono ?_;rintro e wd ⟨rfl,hxd⟩;have kS2:ab w2 wd:=kS.trans hxd;rcases cT zc zg xc xg with ⟨h1,e1⟩|⟨h1,e1⟩|⟨h1,e1⟩
    ·have HPG:=zZ (show LG s t.sts t.pgs k=JV s t.sts ⟨xc,xg,xt,xch,⟨xs,xq⟩⟩ by rw[HSG.out,show dW ⟨zc,zg,zt,zch,⟨zs,zq⟩⟩ ⟨xc,xg,xt,xch,⟨xs,xq⟩⟩=true from decide_eq_true h1];rfl);rw[e1];clear h1 e1;refine hK.out _ _ (fun _=>kS2) ?_;clear hK K;try simp only[kA]
     refine zS 2 [(14,53),(15,54)] kS2 ?_;iterate 2 refine zT ?_ (y:=by intro wk hk;obtain⟨_,_,_,_,_,_,_,_⟩:=zkc8 hk b1 y0 y1 z0 z1 z2 z3 z4;have:=hk.cell z5;go_simp;try with_reducible rfl)
     refine zN (zD ?_);clear kS;have kS:=kS2;clear kS2 z0 z1 z2 z3 z4 z5 m1 hkg hxd;have HFd:=bx (HF2.out.ext kS);have HId:=zZ ((HI.out.ext hx2).ext kS);clear kS y0 y1 y2 y3 y4 y5 b1 HF2 hx2;obtain⟨z0,z1,z2,z3⟩:=(HFd.out.at_ 0 rfl).p4 rfl;have y0:=(HFd.out.at_ 2 rfl).c 0 rfl;go_wp2_with fail;refine (kR _ s xc _ (HS0.out.ext HFd.out.xt) HOK.out).mono ?_;rintro e w5 ⟨⟨fa,fb,fd,rfl,hfx0⟩,hx5⟩;have HFX:=zZ hfx0;have HF5:=bx (HFd.out.ext hx5);clear hfx0 z0 z1 z2 z3 y0;cases hfx:fo s.xp xc with
     |none =>
      have HE:=zZ (show gq s t=false from og HKL.out (by rw[HPG.out];exact Nl hfx));clear hfx;go_wp2_with fail;go_ret
      exact⟨aa HE.out.symm,HF5.out.xt.alloc _⟩
     |some x0 =>
      obtain rfl:x0=⟨fa,fb,fd⟩:=by have:=HFX.out;rw[hfx]at this;exact this
      have HFS:=zZ hfx;have hxb:=rL HOK.out (qR hfx).1;simp only at hxb;have HFV:Bx (aU fd):=⟨⟨by omega,by have:=HOK.out.len;omega⟩⟩
      clear hfx HFX hxb;go_upto_region 14 with (fail)
      obtain⟨w6,hw6⟩:=nm ((w5.alloc (.cells #[A B fa,A B fb,A B fd] 56)):World);have HF6:Bx (aA w w6 [(w.heap.size,#[A B s.num,C AP nP cP,C AB nB cB,C AX nX cX],29),(w.heap.size+1,#[C AS nS cS,C (some ⟨bG,oG,none⟩) u cG],45),(gp,#[A B xc,A B xg,A B xt,C xA xm xcc,A B xs,A B xq],80),(w5.heap.size,#[A B fa,A B fb,A B fd],56)]):=⟨by rw[hw6];exact HF5.out.push _ _ rfl⟩
      have hx6:ab wd w6:=by rw[hw6];exact hx5.alloc _
      rw[<-hw6];clear hw6 HF5 HFd hx5;obtain⟨gx,hgx⟩:=nm w5.heap.size;rw[<-hgx]at HF6;rw[<-hgx];clear hgx;have z0:=(HF6.out.at_ 0 rfl).c 0 rfl;obtain⟨y0,y1⟩:=(HF6.out.at_ 2 rfl).p2 rfl;have f2:=(HF6.out.at_ 3 rfl).c 2 rfl;go_upto_region 15 with (fail)
      obtain⟨w7,hw7⟩:=nm ((w6.alloc (.cells #[A B s.num,A B xc,A B xg,A B fd] 39)):World);have HF7:Bx (aA w w7 [(w.heap.size,#[A B s.num,C AP nP cP,C AB nB cB,C AX nX cX],29),(w.heap.size+1,#[C AS nS cS,C (some ⟨bG,oG,none⟩) u cG],45),(gp,#[A B xc,A B xg,A B xt,C xA xm xcc,A B xs,A B xq],80),(gx,#[A B fa,A B fb,A B fd],56),(w6.heap.size,#[A B s.num,A B xc,A B xg,A B fd],39)]):=⟨by rw[hw7];exact HF6.out.push _ _ rfl⟩
      have hx7:ab wd w7:=by rw[hw7];exact hx6.alloc _
      rw[<-hw7];clear hw7 HF6 hx6 z0 y0 y1 f2;obtain⟨gl,hgl⟩:=nm w6.heap.size;rw[<-hgl]at HF7;rw[<-hgl];clear hgl;have b0:=(HF7.out.at_ 1 rfl).c 0 rfl;have y4:=(HF7.out.at_ 2 rfl).c 4 rfl;have y5:=(HF7.out.at_ 2 rfl).c 5 rfl;go_wp2_with fail;refine (OB _ t.sts xs xq _ (HS.out.ext (cU.stab p) HF7.out.xt) (NG HAS.out xs xq) (by have:=HLS.out;omega)).mono ?_;rintro e w8 ⟨⟨i,b,rfl,hfd⟩,hx8⟩;have HFD:=zZ (OK HAS.out hfd);have hib:i<=nS:=by have:=hfd.1;have:=HLS.out;omega
      have HF8:=bx (HF7.out.ext hx8);have HI8:=zZ (HId.out.ext (hx7.trans hx8));clear hfd HF7 hx7 hx8 b0 y4 y5 HId;go_upto_region 16 with (fail)
      cases b with
      |false =>
       have HE:=zZ (show gq s t=false from og HKL.out (by rw[HPG.out];exact MR (HFD.out.2 rfl)));refine zQ 99 fun we kS=>?_;refine zS 21 [(0,81),(1,82),(2,83),(3,84),(4,85),(5,86),(6,87),(7,88),(8,89),(9,90),(10,91),(11,92),(12,93),(13,94),(14,95),(15,96),(16,97),(17,98),(18,99),(19,100),(20,101)] kS ?_;iterate 3 refine zT ?_
       iterate 7 (apply zK;exact⟨rfl,rfl⟩;simp only[kA];exact rfl)
       iterate 2 refine zT ?_
       iterate 8 (apply zK;exact⟨rfl,rfl⟩;simp only[kA];exact rfl)
       refine zT ?_;refine zN (zD ?_);go_wp2_with fail;go_ret
       exact⟨aa HE.out.symm,HF8.out.xt.trans kS⟩
      |true =>
       obtain⟨x9,hxi,hfy⟩:=HFD.out.1 rfl;have hiS:i<nS:=by have:=(zY.1 hxi).1;have:=HLS.out;omega
       obtain⟨bS,oS,_,_,rfl,-⟩:=HS.out.at_ hiS;obtain⟨qs,qq,qt,qa,qb,qc,qd,HQ,-,q0,q1,q2,q3,q4,q5,q6⟩:=rA.read HS.out HF8.out.xt hiS;obtain rfl:x9=⟨⟨qs,qq⟩,qt,⟨qa,qb,qc,qd⟩⟩:=by have:=HQ.out;rw[hxi]at this;injection this
       have HPB:=zZ (Mz (s:=s) (q:=⟨xc,xg,xt,xch,⟨xs,xq⟩⟩) HFS.out hfy);clear hxi hfy HFD HQ q0 q1;have b0:=(HF8.out.at_ 1 rfl).c 0 rfl;by_cases hq1:qt=1;case neg =>
        have HE:=zZ (show gq s t=false from og HKL.out (by rw[HPG.out,HPB.out];simp[hq1]));have hqb:(qt != 1)=true:=by simp[hq1]
        refine zQ 99 fun we kS=>?_;refine zS 21 [(0,81),(1,82),(2,83),(3,84),(4,85),(5,86),(6,87),(7,88),(8,89),(9,90),(10,91),(11,92),(12,93),(13,94),(14,95),(15,96),(16,97),(17,98),(18,99),(19,100),(20,101)] kS ?_;iterate 12 refine zT ?_ (y:=by intro wk hk;obtain⟨_,_⟩:=zkc2 hk b0 q2;go_simp;try with_reducible rfl)
        iterate 8 (apply zK;exact⟨rfl,rfl⟩;simp only[kA];exact rfl)
        refine zT ?_ (y:=by intro wk hk;obtain⟨_,_⟩:=zkc2 hk b0 q2;go_simp;try with_reducible rfl);refine zN (zD ?_);go_wp2_with fail;go_ret
        exact⟨aa HE.out.symm,HF8.out.xt.trans kS⟩
       have hqb:(qt != 1)=false:=by simp[hq1]
       obtain⟨l0,l1,l2,l3⟩:=(HF8.out.at_ 4 rfl).p4 rfl;have eL:∀W,(Op.equalIn 10000 39 (.agg #[A B qa,A B qb,A B qc,A B qd]) (.agg #[A B s.num,A B xc,A B xg,A B fd])).run prog W=.ok (decide (qa=s.num/\qb=xc/\qc=xg/\qd=fd)) W:=fun W=>ox _ _ _ _ _ _ _ _ W;have gL:=ij;by_cases hle:qa=s.num/\qb=xc/\qc=xg/\qd=fd;case neg =>
        rw[decide_eq_false hle]at eL;have HE:=zZ (show gq s t=false from og HKL.out (by rw[HPG.out,HPB.out];have:(⟨qa,qb,qc,qd⟩:cJ)≠⟨s.num,xc,xg,fd⟩:=fun e=>hle (by injection e with e1 e2 e3 e4;exact⟨e1,e2,e3,e4⟩);simp only[decide_eq_false this,Bool.false_and,Bool.and_false]))
        clear hle;refine zQ 99 fun we kS=>?_;refine zS 21 [(0,81),(1,82),(2,83),(3,84),(4,85),(5,86),(6,87),(7,88),(8,89),(9,90),(10,91),(11,92),(12,93),(13,94),(14,95),(15,96),(16,97),(17,98),(18,99),(19,100),(20,101)] kS ?_;iterate 21 refine zT ?_ (y:=by intro wk hk;obtain⟨_,_,_,_,_,_,_,_⟩:=zkc8 hk b0 q2 q3 q4 q5 q6 l0 l1;obtain⟨_,_⟩:=zkc2 hk l2 l3;go_simp;try with_reducible rfl)
        refine zN (zD ?_);go_wp2_with fail;go_ret
        exact⟨aa HE.out.symm,HF8.out.xt.trans kS⟩
       rw[decide_eq_true hle]at eL;have HPF:=zZ (show LG s t.sts t.pgs k=bH s ⟨s.num,xc,xg,fd⟩ xch by
        rw[HPG.out,HPB.out];have:(⟨qa,qb,qc,qd⟩:cJ)=⟨s.num,xc,xg,fd⟩:=by obtain⟨e1,e2,e3,e4⟩:=hle;rw[e1,e2,e3,e4]
        simp only[decide_eq_true this,decide_eq_true hq1,yK])
       clear hle;refine zQ 99 fun we kS=>?_;refine zS 21 [(0,81),(1,82),(2,83),(3,84),(4,85),(5,86),(6,87),(7,88),(8,89),(9,90),(10,91),(11,92),(12,93),(13,94),(14,95),(15,96),(16,97),(17,98),(18,99),(19,100),(20,101)] kS ?_;iterate 21 refine zT ?_ (y:=by intro wk hk;obtain⟨_,_,_,_,_,_,_,_⟩:=zkc8 hk b0 q2 q3 q4 q5 q6 l0 l1;obtain⟨_,_⟩:=zkc2 hk l2 l3;go_simp;try with_reducible rfl)
       refine zN (zD ?_);have HF9:=bx (HF8.out.ext kS);have HI9:=zZ (HI8.out.ext kS);clear eL gL hqb hq1 b0 q2 q3 q4 q5 q6 l0 l1 l2 l3 kS HF8 HI8;obtain⟨z0,z1,z2,z3⟩:=(HF9.out.at_ 0 rfl).p4 rfl;obtain⟨l0,l1,l2,l3⟩:=(HF9.out.at_ 4 rfl).p4 rfl;have y3:=(HF9.out.at_ 2 rfl).c 3 rfl;go_wp2_with fail;refine (sH _ _ s s.num xc xg fd xch _ (p:=p) (q:=p) (zB hp HF9.out.xt.size) (HS0.out.ext HF9.out.xt) HI9.out ⟨HNUM.out,HWF.out.1,HWF.out.2.1,HFV.out⟩).mono ?_;rintro e wf ⟨rfl,hxf⟩;have hfi:eC s ⟨s.num,xc,xg,fd⟩ xch=bH s ⟨s.num,xc,xg,fd⟩ xch:=by unfold eC;rw[HCK.out];simp
       rw[hfi];have HFf:Bx (aA w wf [(w.heap.size,#[A B s.num,C AP nP cP,C AB nB cB,C AX nX cX],29),(w.heap.size+1,#[C (some ⟨bS,oS,none⟩) nS cS,C (some ⟨bG,oG,none⟩) u cG],45)]):=⟨(HF9.out.ext hxf).take 2⟩
       clear hfi z0 z1 z2 z3 l0 l1 l2 l3 y3 hxf HF9 HI9;cases hft:bH s ⟨s.num,xc,xg,fd⟩ xch with
       |false =>
        have HE:=zZ (show gq s t=false from og HKL.out (by rw[HPF.out];exact hft));go_wp2_with fail;go_ret
        exact⟨aa HE.out.symm,HFf.out.xt⟩
       |true =>
        have HT:=zZ (show LG s t.sts t.pgs k=true by rw[HPF.out];exact hft);clear hft;go_wp2_with fail;go_roundw
        case rel=>exact⟨k+1,by go_num,by omega,⟨⟨HFf.out,fun j hj=>by rcases zU j k with h|h;exact HA.out j h;obtain rfl:j=k:=(by omega);exact HT.out⟩⟩⟩
        case measure=>simp[intOf];omega
    ·skip
     have HE:=zZ (show gq s t=false from og HKL.out (by rw[HSG.out,show dW ⟨zc,zg,zt,zch,⟨zs,zq⟩⟩ ⟨xc,xg,xt,xch,⟨xs,xq⟩⟩=false from decide_eq_false (by simp only;omega)];rfl));rw[e1];clear h1 e1;refine hK.out _ _ (fun _=>kS2) ?_;clear hK K;try simp only[kA]
     refine zS 2 [(14,53),(15,54)] kS2 ?_;iterate 2 refine zT ?_
     refine zN (zD ?_);go_wp2_with fail;go_ret
     exact⟨aa HE.out.symm,HF2.out.xt.trans kS2⟩
    ·skip
     have HE:=zZ (show gq s t=false from og HKL.out (by rw[HSG.out,show dW ⟨zc,zg,zt,zch,⟨zs,zq⟩⟩ ⟨xc,xg,xt,xch,⟨xs,xq⟩⟩=false from decide_eq_false (by simp only;omega)];rfl));rw[e1];clear h1 e1;refine hK.out _ _ (fun _=>kS2) ?_;clear hK K;try simp only[kA]
     refine zS 2 [(14,53),(15,54)] kS2 ?_;iterate 2 refine zT ?_
     refine zN (zD ?_);go_wp2_with fail;go_ret
     exact⟨aa HE.out.symm,HF2.out.xt.trans kS2⟩
  ·obtain rfl:k=u:=by omega
   have HE:=zZ (Qb HCK.out HST.out HUS.out fun j hj=>HA.out j (by have:=HLG.out;omega));go_wp2_with fail;go_ret
   exact⟨aa HE.out.symm,HFr.out.xt⟩
theorem Tryz.infoSc2:(prog.info? 72).map (fun i=>(i.zero,i.size,i.bytes))=some (some (.agg #[A B 0,A B 0,C none 0 0]),3,40):=by kernel_rfl
def Qu(y:P6×Value):List Value:=[A B y.1.cand,A B y.1.state,y.2]
def Ri(base:Nat)(w:World)(y:P6×Value):Prop:=hZ w base y.2 y.1.pgs
def Mt(base:Nat)(w:World)(v:Value)(ys:List (P6×Value)):Prop:=pU base 72 3 Qu (Ri base) w v ys
def MW(p:Nat):World->List Value->P6->Prop:=fun w cs x=>∃u,cs=[A B x.cand,A B x.state,u]/\ak p w u x.pgs
theorem Mt.isS{p base:Nat}{w:World}{v:Value}{ys:List (P6×Value)}(h:Mt base w v ys)(hp:p<base):bj p 3 (MW p) w v (ys.map Prod.fst) :=
 pU.isS Prod.fst h hp (by decide) (fun y _=>rfl) fun y _ hy=>⟨y.2,rfl,hZ.isI hy hp⟩
def M4(w:World)(er:Int)(l:List P6)(e:Ending)(w':World):Prop:=(∃vr ys,e=.returned (.tuple #[vr,A B er])/\Mt w.heap.size w' vr ys/\ys.map Prod.fst=l)/\ab w w'
theorem MP{s:dl}{t:r6}(h:gq s t=true):dU s/\iT dW t.pgs/\iT bU t.sts:=⟨iL.1 (j7.1 h).chk,(j7.1 h).ascP,(j7.1 h).asc⟩
theorem PC{s:dl}{k:Nat}{x:fv}(h:s.xp[k]?=some x):x∈s.xp:=zW h
theorem MG(v vi:Value)(s:dl)(t:r6)(w:World)(hp:p<w.heap.size)(hs:aR p w v s)(ht:aK p w vi t)(hn1:t.sts.length<=1000)(hn2:t.pgs.length<=1000) :
  Calls prog 15 #[v,vi] w (M4 w (if gq s t=true then 0 else 1) (if gq s t=true then s.xp.map (gt s t) else [])):=by
 obtain⟨iC,hiC,hC0,hC1,hC2⟩:=info_parts Tryz.infoSc2;obtain⟨er,her⟩:=nm (if gq s t=true then 0 else 1:Int);obtain⟨lr,hlr⟩:=nm (if gq s t=true then s.xp.map (gt s t) else []:List P6);rw[<-her,<-hlr];have HER:=zZ her;have HLR:=zZ hlr;clear her hlr;have HS0:=zZ hs;have HT0:=zZ ht;obtain⟨vP,vB,vX,rfl,hP,hB,hX,hnum⟩:=hs;obtain⟨AP,nP,cP,rfl,-⟩:=hP.open_;obtain⟨AB,nB,cB,rfl,-⟩:=hB.open_;obtain⟨AX,nX,cX,rfl,hncX,hccX,hnnX,HLX⟩:=hX.open_;obtain⟨vS,vG,rfl,hS,hG⟩:=ht;obtain⟨AS,nS,cS,rfl,-⟩:=hS.open_;obtain⟨AG,nG,cG,rfl,-⟩:=hG.open_;have HX0:Bx (jh p w (C AX nX cX) s.xp):=⟨hX⟩
 have HN:Bx (t.sts.length<=1000/\t.pgs.length<=1000):=⟨⟨hn1,hn2⟩⟩
 clear hP hB hX hnum hS hG hn1 hn2;obtain⟨w1,hw1⟩:=nm (((w.alloc (.cells #[A B s.num,C AP nP cP,C AB nB cB,C AX nX cX] 29)).alloc (.cells #[C AS nS cS,C AG nG cG] 45)):World);have HF:Bx (aA w w1 [(w.heap.size,#[A B s.num,C AP nP cP,C AB nB cB,C AX nX cX],29),(w.heap.size+1,#[C AS nS cS,C AG nG cG],45)]):=⟨by rw[hw1];exact ((aA.start w).push _ _ rfl).push _ _ (by simp)⟩
 go_enter func15,ntmps15
 go_upto_region 1 with (fail)
 rw[<-hw1];clear hw1;obtain⟨z0,z1,z2,z3⟩:=(HF.out.at_ 0 rfl).p4 rfl;obtain⟨i0,i1⟩:=(HF.out.at_ 1 rfl).p2 rfl;go_wp2_with fail;refine (Ms _ _ s t _ (p:=p) (zB hp HF.out.xt.size) (HS0.out.ext HF.out.xt) (HT0.out.ext HF.out.xt) HN.out.1 HN.out.2).mono ?_;rintro e w2 ⟨rfl,hx2⟩;have HF2:=bx (HF.out.ext hx2);clear HF hx2 z0 z1 z2 z3 i0 i1;cases hb:gq s t with
 |false =>
  obtain rfl:er=1:=by rw[HER.out,hb];rfl
  obtain rfl:lr=[]:=by rw[HLR.out,hb];rfl
  go_wp2_with fail;refine bodyPost_ret (v:=.tuple #[C none 0 0,A B 1]) (by simp[results,results15,go_sem]) rfl ⟨⟨C none 0 0,[],rfl,pU.nil _ _,rfl⟩,HF2.out.xt⟩
 |true =>
 have HP:=zZ (MP hb);obtain rfl:er=0:=by rw[HER.out,hb];rfl
 have HL2:=zZ (show lr=s.xp.map (gt s t) by rw[HLR.out,hb];rfl);clear HER HLR;have hnX:nX<=60:=by have:=HP.out.1.len.2.2;have:=HLX.out;omega
 clear hb;have z3:=(HF2.out.at_ 0 rfl).c 3 rfl;go_wp2_with fail;clear z3;go_loopw [6,16] (fun s6 s16 wr=>∃(k:Nat) (ys:List (P6×Value)),s16=A B k/\k<=nX/\Bx (aA w wr [(w.heap.size,#[A B s.num,C AP nP cP,C AB nB cB,C AX nX cX],29),(w.heap.size+1,#[C AS nS cS,C AG nG cG],45)]/\Mt w.heap.size wr s6 ys/\ys.map Prod.fst=(s.xp.take k).map (gt s t))) (fun _ k _=>nX-(intOf k).toNat)
 case atStart=>exact⟨0,[],rfl,by omega,⟨⟨HF2.out,pU.nil _ _,rfl⟩⟩⟩
 case round =>
  obtain⟨k,ys,rfl,hk,HR⟩:=hrel;have HFr:Bx (aA w wr [(w.heap.size,#[A B s.num,C AP nP cP,C AB nB cB,C AX nX cX],29),(w.heap.size+1,#[C AS nS cS,C AG nG cG],45)]):=⟨HR.out.1⟩
  have HO:Bx (Mt w.heap.size wr _ ys):=⟨HR.out.2.1⟩
  have HY:Bx (ys.map Prod.fst=(s.xp.take k).map (gt s t)):=⟨HR.out.2.2⟩
  have HYL:Bx (ys.length=k):=⟨by have:=congrArg List.length HY.out;simp at this;have:=HLX.out;omega⟩
  obtain⟨Ao,co,hu⟩:=pU.form HO.out;rw[HYL.out]at hu;subst hu;clear HR HF2;by_cases hkn:k<nX
  ·obtain⟨bX,oX,_,_,rfl,-⟩:=HX0.out.at_ hkn;obtain⟨xa,xb,xd,HXX,x0,x1,x2⟩:=jh.read HX0.out HFr.out.xt.xt hkn;go_upto_region 7 with (fail)
   obtain⟨w2,hw2⟩:=nm ((wr.alloc (.cells #[A B xa,A B xb,A B xd] 56)):World);have hx2:ab wr w2:=by rw[hw2];exact (zE _).alloc _
   have HF2:Bx (aA w w2 [(w.heap.size,#[A B s.num,C AP nP cP,C AB nB cB,C (some ⟨bX,oX,none⟩) nX cX],29),(w.heap.size+1,#[C AS nS cS,C AG nG cG],45),(wr.heap.size,#[A B xa,A B xb,A B xd],56)]):=⟨by rw[hw2];exact HFr.out.push _ _ rfl⟩
   rw[<-hw2];have HO2:Bx (Mt w.heap.size w2 (C Ao k co) ys):=⟨pU.ext HO.out (fun y hy=>hZ.ext hy hx2) hx2⟩
   clear hw2 hx2 x0 x1 x2 HFr HO;obtain⟨gx,hgx⟩:=nm wr.heap.size;rw[<-hgx]at HF2;rw[<-hgx];clear hgx;obtain⟨z0,z1,z2,z3⟩:=(HF2.out.at_ 0 rfl).p4 rfl;obtain⟨i0,i1⟩:=(HF2.out.at_ 1 rfl).p2 rfl;obtain⟨x0,x1,x2⟩:=(HF2.out.at_ 2 rfl).p3 rfl;go_wp2_with (first
    |(go_at_call 44;refine (Mp _ _ s t xa xb xd _ (p:=p) (zB hp HF2.out.xt.size) (HS0.out.ext HF2.out.xt) (HT0.out.ext HF2.out.xt) HP.out.1 HP.out.2.1 (PC HXX.out) HN.out.1 HN.out.2).mono ?_;rintro e w5 ⟨⟨vp,rfl,hvp⟩,hx5⟩;obtain⟨Ap,cp,rfl⟩:=hvp.form;have HVP:=zZ (hvp.base_ HF2.out.xt.size);have HF5:=zZ (HF2.out.ext hx5);have HO5:=zZ (show Mt w.heap.size w5 (C Ao k co) ys from pU.ext HO2.out (fun y hy=>hZ.ext hy hx5) hx5);have HW5:=zZ (show w5.ownsRow w.heap.size 72 3 (C Ao k co) k (ys.map Qu).flatten from HYL.out▸HO5.out.own.own);clear hvp hx5 HF2 HO2)
    |(at_builtin;refine cZ _ rfl (.tmp 20) (.tmp 25) 68 rfl w.heap.size 72 iC _ 3 40 underlying68 hiC hC0 hC1 hC2 rfl (by omega) (C Ao k co) k (ys.map Qu).flatten rfl (ao HW5.out ((zE _).alloc _)) _ #[A B (gt s t ⟨xa,xb,xd⟩).cand,A B (gt s t ⟨xa,xb,xd⟩).state,C Ap (gt s t ⟨xa,xb,xd⟩).pgs.length cp] _ rfl (heap_alloc_new _ _) rfl (by simp[Value.oneCell']) (by omega) (by omega) (by have:=HF5.out.xt.size;simp;omega) ?_;intro v6 w6 hown6 hg6;have H6:Bx (Mt w.heap.size w6 v6 (ys++[(gt s t ⟨xa,xb,xd⟩,C Ap (gt s t ⟨xa,xb,xd⟩).pgs.length cp)])/\aA w w6 [(w.heap.size,#[A B s.num,C AP nP cP,C AB nB cB,C (some ⟨bX,oX,none⟩) nX cX],29),(w.heap.size+1,#[C AS nS cS,C AG nG cG],45)]):=⟨⟨pU.push (f:=Qu) (pU.ext HO5.out (fun y hy=>hZ.ext hy ((zE _).alloc _)) ((zE _).alloc _)) (HYL.out.symm▸hown6) (fun y hy=>hZ.apart hy (HO5.out.own.ext ((zE _).alloc _)) (by decide) hg6) (hZ.apart (HVP.out.ext ((zE _).alloc _)) (HO5.out.own.ext ((zE _).alloc _)) (by decide) hg6),((HF5.out.take 2).ext ((zE _).alloc _)).grownT (HO5.out.own.ext ((zE _).alloc _)) hg6 (zX _) rfl⟩⟩;clear hown6 hg6))
   go_roundw
   case rel=>exact⟨k+1,_,by go_num,by omega,⟨⟨H6.out.2,H6.out.1,by rw[ax HXX.out];simp[HY.out]⟩⟩⟩
   case measure=>simp[intOf];omega
  ·obtain rfl:k=nX:=by omega
   have HE:=zZ (show (s.xp.take k).map (gt s t)=s.xp.map (gt s t) by rw[bh (by have:=HLX.out;omega)]);go_wp2_with fail;refine bodyPost_ret (v:=.tuple #[C Ao k co,A B 0]) (by simp[results,results15,go_sem]) rfl ⟨⟨C Ao k co,ys,rfl,HO.out,by rw[HY.out,HE.out,HL2.out]⟩,HFr.out.xt⟩
end Go.Proofs.YtpaidaphacoblaaGreatDoor

