import Derived.Test.YtpaidaphacoblaaGreatDoorK34
import Derived.Test.YtpaidaphacoblaaGreatDoorK31
set_option linter.all false
set_option maxRecDepth 100000
set_option maxHeartbeats 0
namespace Go.Proofs.YtpaidaphacoblaaGreatDoor
open Go.Value renaming int→B,slice→D
open Go.IntKind renaming i64→C
open Go.RowKit _root_.Go.Proofs.Tryz
variable {p:Nat}
theorem P2{s:dl}{i:r6}{x:fv}{q:je}{b:List (List Int)}{d f ld:Int}(hq:s.pap[x.var.toNat]?=some q)(hb:s.bk[x.var.toNat]?=some b){t:Nat}{r:av}(hr:q.ps[t]?=some r) :
  (Mj s i d f ld x)[t]?=some (if r.kind=2 then (d9 q.code q.var q.ps b d f ld (kF b (t:Int)) ((dG i.pgs x.cand (kF b (t:Int))).getD ⟨0,0,0,[],⟨0,0⟩⟩).ch).getD t 0 else -1):=by
 rw[OT hq hb hr];cases dG i.pgs x.cand (kF b (t:Int))<;>rfl
theorem Pb{code var:Int}{ps:List av}{pgs:List (List Int)}{d f ld page:Int}{cs:List Int}:∀x∈d9 code var ps pgs d f ld page cs,aU x:=by
 intro x hx;unfold d9 at hx;split at hx
 ·exact N3 _ _ _ x hx
 ·cases hx
theorem Pz{l:List Int}(h:∀x∈l,aU x)(k:Nat):aU (l.getD k 0):=by
 unfold List.getD;cases e:l[k]? with
 |none=>exact⟨by decide,by decide⟩
 |some v=>exact h v (zW e)
theorem Qa(s:dl)(i:r6)(d f ld:Int)(x:fv):∀z∈Mj s i d f ld x,aU z:=by
 intro z hz;unfold Mj at hz;split at hz
 ·obtain⟨k,_,rfl⟩:=zF.1 hz;split
  ·split
   ·split<;>exact Pz Pb _
   ·exact⟨by decide,by decide⟩
  ·exact⟨by decide,by decide⟩
 ·cases hz
theorem Nq(v vi:Value)(s:dl)(t:r6)(d f ld xa xb xd:Int)(w:World)(hp:p<w.heap.size)(hs:aR p w v s)(ht:aK p w vi t)(hB0:KY s t)(hx:fo s.xp xa=some ⟨xa,xb,xd⟩)(hd:cj s t ⟨xa,xb,xd⟩=true)(hv:j5 d f ld=true)(hn1:t.sts.length<=1000)(hn2:t.pgs.length<=1000) :
  Calls prog 45 #[v,vi,.agg #[B C d,B C f,B C ld],.agg #[B C xa,B C xb,B C xd]] w fun e w'=>(∃vr,e=.returned (.tuple #[vr,B C 0])/\hZ w' w.heap.size vr (Mj s t d f ld ⟨xa,xb,xd⟩))/\ab w w':=by
 obtain⟨i0,hi0,hz0,hz1,hz2⟩:=info_parts Tryz.infoI;have HS0:=zZ hs;have HT0:=zZ ht;obtain⟨vP,vB,vX,rfl,hP,hB,hX,hnum⟩:=hs;obtain⟨AP,nP,cP,rfl,hnP,hcP,hmP,HLP⟩:=hP.open_;obtain⟨AB,nB,cB,rfl,hnB,hcB,hmB,HLB⟩:=hB.open_;obtain⟨AX,nX,cX,rfl,-⟩:=hX.open_;obtain⟨vS,vG,rfl,hS,hG⟩:=ht;obtain⟨AS,nS,cS,rfl,-⟩:=hS.open_;obtain⟨AG,nG,cG,rfl,-⟩:=hG.open_;have hok:=iL.1 hB0.chk;have hxb:=rL hok (qR hx).1;simp only at hxb;obtain⟨xb1,xb2,xb3,xb4,xb5,xb6⟩:=hxb;obtain⟨⟨pc,pv,pps⟩,bk,hpq,hbk,hbb,hvp,-,-⟩:=rT hok xb3 xb4;simp only at hbb hvp;have hbn:=ND hbb;have hpn:pps.length<=24/\1<=pps.length:=by unfold fD at hvp;simp only[yT,decide_eq_true_eq]at hvp;omega
 have hbks:=hok.bks;obtain⟨r,rfl⟩:=zG xb3;have hRl:=PM (s:=s) (i:=t) (x:=⟨xa,xb,(r:Int)⟩) (d:=d) (f:=f) (ld:=ld) hpq hbk;simp only at hRl;have HAP:Bx (∀(j:Nat) (pg:List Int),bk[j]?=some pg->∃y,dG t.pgs xa (j:Int)=some y/\Mg pc pv pps bk d f ld (j:Int) y.ch=0/\(d9 pc pv pps bk d f ld (j:Int) y.ch).length=pps.length/\∀u:Nat,(u:Int)∈pg->u<pps.length->∃v,(d9 pc pv pps bk d f ld (j:Int) y.ch)[u]?=some v/\(Mj s t d f ld ⟨xa,xb,(r:Int)⟩)[u]?=some v):=⟨fun j pg hj=>by obtain⟨y,hy,hl,ha⟩:=P4 hB0 hx hpq hbk hd hj;have:=Pw hB0 hx hpq hbk hv hj hy hl ha;exact⟨y,hy,this.1,this.2.1,this.2.2⟩⟩
 have HAI:Bx (∀(u:Nat) (r':av),pps[u]?=some r'->(Mj s t d f ld ⟨xa,xb,(r:Int)⟩)[u]?=some (if r'.kind=2 then (d9 pc pv pps bk d f ld (kF bk (u:Int)) ((dG t.pgs xa (kF bk (u:Int))).getD ⟨0,0,0,[],⟨0,0⟩⟩).ch).getD u 0 else -1)):=⟨fun u r' hu=>P2 (s:=s) (i:=t) (x:=⟨xa,xb,(r:Int)⟩) (q:=⟨pc,pv,pps⟩) (b:=bk) hpq hbk hu⟩
 have hRI:=Qa s t d f ld ⟨xa,xb,(r:Int)⟩;obtain⟨R,hR⟩:=nm (Mj s t d f ld ⟨xa,xb,(r:Int)⟩);rw[<-hR]at hRl HAP HAI hRI;have HRI:=zZ hRI;rw[<-hR];rw[yC]at hpq hbk;have hrP:r<nP:=by have:=HLP.out;omega
 have hrB:r<nB:=by have:=HLB.out;omega
 obtain⟨bP,oP,_,_,rfl,-⟩:=hP.at_ hrP;obtain⟨bB,oB,_,_,rfl,-⟩:=hB.at_ hrB;obtain⟨Aq,nq,cq,q0,q1,q2,hIQ,hqc,hqv⟩:=kn hP hpq (zE w).xt;obtain⟨Ab,nb,cb,b0,hIB,HNB⟩:=lJ hB hbk (zE w).xt;simp only at q0 q1 q2 hIQ hqc hqv;obtain⟨_,_,_,e9,-,-,hmq,HNQ⟩:=hIQ.open_;cases e9;have HIQ:=zZ hIQ;have HIB:=zZ hIB;have HBB:=zZ hbb;have HRL:=zZ hRl;have HHA:=zZ hB0.ascP;have hnb:nb<=12/\1<=nb:=by have:=HNB.out;omega
 have hnq:nq<=24/\1<=nq:=by have:=HNQ.out;omega
 obtain⟨hnb1,hnb2⟩:=hnb;obtain⟨hnq1,hnq2⟩:=hnq;have HN:Bx (t.sts.length<=1000/\t.pgs.length<=1000):=⟨⟨hn1,hn2⟩⟩
 clear hP hB hX hnum hS hG hB0 hx hd hv hok hpq hbk hbb hvp hbn hpn hbks hR hRl hRI hIQ hIB hqc hqv hn1 hn2 HLP HLB;obtain⟨w1,hw1⟩:=nm (((((w.alloc (.cells #[B C s.num,D (some ⟨bP,oP,none⟩) nP cP,D (some ⟨bB,oB,none⟩) nB cB,D AX nX cX] 29)).alloc (.cells #[D AS nS cS,D AG nG cG] 45)).alloc (.cells #[B C d,B C f,B C ld] 53)).alloc (.cells #[B C xa,B C xb,B C (r:Int)] 56)):World);have HF:Bx (aA w w1 [(w.heap.size,#[B C s.num,D (some ⟨bP,oP,none⟩) nP cP,D (some ⟨bB,oB,none⟩) nB cB,D AX nX cX],29),(w.heap.size+1,#[D AS nS cS,D AG nG cG],45),(w.heap.size+1+1,#[B C d,B C f,B C ld],53),(w.heap.size+1+1+1,#[B C xa,B C xb,B C (r:Int)],56)]):=⟨by rw[hw1];exact ((((aA.start w).push _ _ rfl).push _ _ (by simp)).push _ _ (by simp)).push _ _ (by simp)⟩
 go_enter func45,ntmps45
 go_upto_region 1 with (fail)
 rw[<-hw1];clear hw1;go_cut [10,11] (fun s1 s2 we=>∃gP gB:Nat,s1=.pointer (some ⟨gP,0,none⟩)/\s2=.pointer (some ⟨gB,0,none⟩)/\Bx (aA w we [(w.heap.size,#[B C s.num,D (some ⟨bP,oP,none⟩) nP cP,D (some ⟨bB,oB,none⟩) nB cB,D AX nX cX],29),(w.heap.size+1,#[D AS nS cS,D AG nG cG],45),(w.heap.size+1+1,#[B C d,B C f,B C ld],53),(w.heap.size+1+1+1,#[B C xa,B C xb,B C (r:Int)],56),(gP,#[B C pc,B C pv,D Aq nq cq],64),(gB,#[D Ab nb cb],61)]))
 case first =>
  refine zR 15 (fun w'=>aA w w' [(w.heap.size,#[B C s.num,D (some ⟨bP,oP,none⟩) nP cP,D (some ⟨bB,oB,none⟩) nB cB,D AX nX cX],29),(w.heap.size+1,#[D AS nS cS,D AG nG cG],45),(w.heap.size+1+1,#[B C d,B C f,B C ld],53),(w.heap.size+1+1+1,#[B C xa,B C xb,B C (r:Int)],56)]) ?_;have kS:(fun w'=>aA w w' [(w.heap.size,#[B C s.num,D (some ⟨bP,oP,none⟩) nP cP,D (some ⟨bB,oB,none⟩) nB cB,D AX nX cX],29),(w.heap.size+1,#[D AS nS cS,D AG nG cG],45),(w.heap.size+1+1,#[B C d,B C f,B C ld],53),(w.heap.size+1+1+1,#[B C xa,B C xb,B C (r:Int)],56)]) w1.drew:=HF.out.drew;have kD:ab w1 w1.drew:=(zE _).drew;obtain⟨wz0,hwz0⟩:=nm (w1.drew:World);rw[<-hwz0]at kS kD⊢;clear hwz0;refine zS 12 [(0,21),(1,22),(2,23),(3,24),(4,25),(5,26),(6,27),(7,28),(8,29),(9,30),(10,31),(11,32)] kS ?_;iterate 12 refine zT ?_ (y:=by intro wk hk;have z1:=(hk.at_ 0 rfl).c 1 rfl;have z2:=(hk.at_ 0 rfl).c 2 rfl;have x2:=(hk.at_ 3 rfl).c 2 rfl;(replace q0:=hk.xt.cell q0);(replace q1:=hk.xt.cell q1);(replace q2:=hk.xt.cell q2);(replace b0:=hk.xt.cell b0);go_simp;try with_reducible rfl)
  refine zN ?_;have HZ0:Bx (aA w wz0 [(w.heap.size,#[B C s.num,D (some ⟨bP,oP,none⟩) nP cP,D (some ⟨bB,oB,none⟩) nB cB,D AX nX cX],29),(w.heap.size+1,#[D AS nS cS,D AG nG cG],45),(w.heap.size+1+1,#[B C d,B C f,B C ld],53),(w.heap.size+1+1+1,#[B C xa,B C xb,B C (r:Int)],56)]):=⟨kS⟩
  refine an 12 13 (by kernel_rfl) rfl rfl (fun K hK=>?_) (fun K hK=>?_)
  ·go_simp;obtain⟨wz1,hwz1⟩:=nm ((wz0.alloc (.cells #[B C 0,B C 0,D none 0 0] 64)):World);obtain⟨gz1,hgz1⟩:=nm wz0.heap.size;have HZ1:Bx (aA w wz1 [(w.heap.size,#[B C s.num,D (some ⟨bP,oP,none⟩) nP cP,D (some ⟨bB,oB,none⟩) nB cB,D AX nX cX],29),(w.heap.size+1,#[D AS nS cS,D AG nG cG],45),(w.heap.size+1+1,#[B C d,B C f,B C ld],53),(w.heap.size+1+1+1,#[B C xa,B C xb,B C (r:Int)],56),(gz1,#[B C 0,B C 0,D none 0 0],64)]):=⟨by rw[hwz1];exact HZ0.out.push _ _ hgz1.symm⟩
   rw[<-hwz1,<-hgz1];clear hwz1 hgz1;clear kS;have kS:=HZ1.out.take 4;refine hK.out _ _ (fun _=>kS) ?_;clear hK K;try simp only[kA]
   refine zO 13 (fun K hK=>?_);go_simp;obtain⟨wz2,hwz2⟩:=nm ((wz1.alloc (.cells #[D none 0 0] 61)):World);obtain⟨gz2,hgz2⟩:=nm wz1.heap.size;have HZ2:Bx (aA w wz2 [(w.heap.size,#[B C s.num,D (some ⟨bP,oP,none⟩) nP cP,D (some ⟨bB,oB,none⟩) nB cB,D AX nX cX],29),(w.heap.size+1,#[D AS nS cS,D AG nG cG],45),(w.heap.size+1+1,#[B C d,B C f,B C ld],53),(w.heap.size+1+1+1,#[B C xa,B C xb,B C (r:Int)],56),(gz1,#[B C 0,B C 0,D none 0 0],64),(gz2,#[D none 0 0],61)]):=⟨by rw[hwz2];exact HZ1.out.push _ _ hgz2.symm⟩
   rw[<-hwz2,<-hgz2];clear hwz2 hgz2;clear kS;have kS:=HZ2.out.take 4;refine hK.out _ _ (fun _=>kS) ?_;clear hK K;try simp only[kA]
   refine zO 14 (fun K hK=>?_);obtain⟨u0,u1,u2⟩:=(HZ2.out.at_ 4 rfl).p3 rfl;have v0:=(HZ2.out.at_ 4 rfl).froz;have v1:=v0;have v2:=v0;go_simp;have hZ3:=HZ2.out.setAll 4 rfl [B C pc,B C pv,D Aq nq cq] rfl;obtain⟨wz3,hwz3⟩:=nm ((((wz2.setCell ⟨gz1,0,none⟩ (B C pc)).setCell ⟨gz1,1,none⟩ (B C pv)).setCell ⟨gz1,2,none⟩ (D Aq nq cq)):World);have HZ3:Bx (aA w wz3 [(w.heap.size,#[B C s.num,D (some ⟨bP,oP,none⟩) nP cP,D (some ⟨bB,oB,none⟩) nB cB,D AX nX cX],29),(w.heap.size+1,#[D AS nS cS,D AG nG cG],45),(w.heap.size+1+1,#[B C d,B C f,B C ld],53),(w.heap.size+1+1+1,#[B C xa,B C xb,B C (r:Int)],56),(gz1,#[B C pc,B C pv,D Aq nq cq],64),(gz2,#[D none 0 0],61)]):=⟨by rw[hwz3];exact hZ3⟩
   rw[<-hwz3];clear hwz3 hZ3 u0 v0 u1 v1 u2 v2;clear kS;have kS:=HZ3.out.take 4;refine hK.out _ _ (fun _=>kS) ?_;clear hK K;try simp only[kA]
   refine zO 15 (fun K hK=>?_);have u0:=(HZ3.out.at_ 5 rfl).c 0 rfl;have v0:=(HZ3.out.at_ 5 rfl).froz;go_simp;have hZ4:=HZ3.out.setAll 5 rfl [D Ab nb cb] rfl;obtain⟨wz4,hwz4⟩:=nm ((wz3.setCell ⟨gz2,0,none⟩ (D Ab nb cb)):World);have HZ4:Bx (aA w wz4 [(w.heap.size,#[B C s.num,D (some ⟨bP,oP,none⟩) nP cP,D (some ⟨bB,oB,none⟩) nB cB,D AX nX cX],29),(w.heap.size+1,#[D AS nS cS,D AG nG cG],45),(w.heap.size+1+1,#[B C d,B C f,B C ld],53),(w.heap.size+1+1+1,#[B C xa,B C xb,B C (r:Int)],56),(gz1,#[B C pc,B C pv,D Aq nq cq],64),(gz2,#[D Ab nb cb],61)]):=⟨by rw[hwz4];exact hZ4⟩
   rw[<-hwz4];clear hwz4 hZ4 u0 v0;clear kS;have kS:=HZ4.out.take 4;refine hK.out _ _ (fun h=>absurd rfl h) ?_;clear hK K;refine zD ?_;go_wp2_with fail;have HFz:=HZ4;go_meet
   exact⟨gz1,gz2,rfl,rfl,HFz⟩
  ·go_simp;obtain⟨wz5,hwz5⟩:=nm ((wz0.alloc (.cells #[D none 0 0] 61)):World);obtain⟨gz5,hgz5⟩:=nm wz0.heap.size;have HZ5:Bx (aA w wz5 [(w.heap.size,#[B C s.num,D (some ⟨bP,oP,none⟩) nP cP,D (some ⟨bB,oB,none⟩) nB cB,D AX nX cX],29),(w.heap.size+1,#[D AS nS cS,D AG nG cG],45),(w.heap.size+1+1,#[B C d,B C f,B C ld],53),(w.heap.size+1+1+1,#[B C xa,B C xb,B C (r:Int)],56),(gz5,#[D none 0 0],61)]):=⟨by rw[hwz5];exact HZ0.out.push _ _ hgz5.symm⟩
   rw[<-hwz5,<-hgz5];clear hwz5 hgz5;clear kS;have kS:=HZ5.out.take 4;refine hK.out _ _ (fun _=>kS) ?_;clear hK K;try simp only[kA]
   refine zO 12 (fun K hK=>?_);go_simp;obtain⟨wz6,hwz6⟩:=nm ((wz5.alloc (.cells #[B C 0,B C 0,D none 0 0] 64)):World);obtain⟨gz6,hgz6⟩:=nm wz5.heap.size;have HZ6:Bx (aA w wz6 [(w.heap.size,#[B C s.num,D (some ⟨bP,oP,none⟩) nP cP,D (some ⟨bB,oB,none⟩) nB cB,D AX nX cX],29),(w.heap.size+1,#[D AS nS cS,D AG nG cG],45),(w.heap.size+1+1,#[B C d,B C f,B C ld],53),(w.heap.size+1+1+1,#[B C xa,B C xb,B C (r:Int)],56),(gz5,#[D none 0 0],61),(gz6,#[B C 0,B C 0,D none 0 0],64)]):=⟨by rw[hwz6];exact HZ5.out.push _ _ hgz6.symm⟩
   rw[<-hwz6,<-hgz6];clear hwz6 hgz6;clear kS;have kS:=HZ6.out.take 4;refine hK.out _ _ (fun _=>kS) ?_;clear hK K;try simp only[kA]
   refine zO 14 (fun K hK=>?_);obtain⟨u0,u1,u2⟩:=(HZ6.out.at_ 5 rfl).p3 rfl;have v0:=(HZ6.out.at_ 5 rfl).froz;have v1:=v0;have v2:=v0;go_simp;have hZ7:=HZ6.out.setAll 5 rfl [B C pc,B C pv,D Aq nq cq] rfl;obtain⟨wz7,hwz7⟩:=nm ((((wz6.setCell ⟨gz6,0,none⟩ (B C pc)).setCell ⟨gz6,1,none⟩ (B C pv)).setCell ⟨gz6,2,none⟩ (D Aq nq cq)):World);have HZ7:Bx (aA w wz7 [(w.heap.size,#[B C s.num,D (some ⟨bP,oP,none⟩) nP cP,D (some ⟨bB,oB,none⟩) nB cB,D AX nX cX],29),(w.heap.size+1,#[D AS nS cS,D AG nG cG],45),(w.heap.size+1+1,#[B C d,B C f,B C ld],53),(w.heap.size+1+1+1,#[B C xa,B C xb,B C (r:Int)],56),(gz5,#[D none 0 0],61),(gz6,#[B C pc,B C pv,D Aq nq cq],64)]):=⟨by rw[hwz7];exact hZ7⟩
   rw[<-hwz7];clear hwz7 hZ7 u0 v0 u1 v1 u2 v2;clear kS;have kS:=HZ7.out.take 4;refine hK.out _ _ (fun _=>kS) ?_;clear hK K;try simp only[kA]
   refine zO 15 (fun K hK=>?_);have u0:=(HZ7.out.at_ 4 rfl).c 0 rfl;have v0:=(HZ7.out.at_ 4 rfl).froz;go_simp;have hZ8:=HZ7.out.setAll 4 rfl [D Ab nb cb] rfl;obtain⟨wz8,hwz8⟩:=nm ((wz7.setCell ⟨gz5,0,none⟩ (D Ab nb cb)):World);have HZ8:Bx (aA w wz8 [(w.heap.size,#[B C s.num,D (some ⟨bP,oP,none⟩) nP cP,D (some ⟨bB,oB,none⟩) nB cB,D AX nX cX],29),(w.heap.size+1,#[D AS nS cS,D AG nG cG],45),(w.heap.size+1+1,#[B C d,B C f,B C ld],53),(w.heap.size+1+1+1,#[B C xa,B C xb,B C (r:Int)],56),(gz5,#[D Ab nb cb],61),(gz6,#[B C pc,B C pv,D Aq nq cq],64)]):=⟨by rw[hwz8];exact hZ8⟩
   rw[<-hwz8];clear hwz8 hZ8 u0 v0;clear kS;have kS:=HZ8.out.take 4;refine hK.out _ _ (fun h=>absurd rfl h) ?_;clear hK K;refine zD ?_;go_wp2_with fail;have HFz:Bx (aA w wz8 [(w.heap.size,#[B C s.num,D (some ⟨bP,oP,none⟩) nP cP,D (some ⟨bB,oB,none⟩) nB cB,D AX nX cX],29),(w.heap.size+1,#[D AS nS cS,D AG nG cG],45),(w.heap.size+1+1,#[B C d,B C f,B C ld],53),(w.heap.size+1+1+1,#[B C xa,B C xb,B C (r:Int)],56),(gz6,#[B C pc,B C pv,D Aq nq cq],64),(gz5,#[D Ab nb cb],61)]):=⟨aA.swap (L:=[(w.heap.size,#[B C s.num,D (some ⟨bP,oP,none⟩) nP cP,D (some ⟨bB,oB,none⟩) nB cB,D AX nX cX],29),(w.heap.size+1,#[D AS nS cS,D AG nG cG],45),(w.heap.size+1+1,#[B C d,B C f,B C ld],53),(w.heap.size+1+1+1,#[B C xa,B C xb,B C (r:Int)],56)]) HZ8.out⟩
   go_meet
   exact⟨gz6,gz5,rfl,rfl,HFz⟩
 case rest =>
  obtain⟨gP,gB,rfl,rfl,HE0⟩:=hcut;have p2:(wc.alloc (.cells #[B C (-1)] 3)).cell? ⟨gP,2,none⟩=some (D Aq nq cq):=((zE wc).alloc _).cell ((HE0.out.at_ 4 rfl).c 2 rfl);go_upto_region 3 with (go_at_call 82;refine (Ng wc.heap.size 0 1 nq (-1) _ hnq1 ((Bk.new wc #[B C (-1)] 3).c 0 rfl) (by omega) (by omega)).mono ?_;rintro e w3 ⟨v3,rfl,hv3,hx3⟩;obtain⟨gA,cA,rfl,hgA,hgA2⟩:=di hv3 hnq2)
  have hx3':ab wc w3:=((zE _).alloc _).trans hx3;have hiv:hZ w3 wc.heap.size (D (some ⟨gA,0,none⟩) nq cA) (sF R 0):=by rw[Oy,show R.length=nq by rw[HRL.out,HNQ.out]];exact⟨by simpa using cd hv3 (by simp),fun x hx=>by obtain rfl:=uX hx;exact⟨by decide,by decide⟩,by simp;omega⟩
  have hlz:(sF R 0).length=nq:=by rw[Pf (xL _),HRL.out,HNQ.out]
  obtain⟨cu3,hb3,ha3,hg3⟩:=hiv.ans hlz;have HF3:Bx (aA w w3 [(w.heap.size,#[B C s.num,D (some ⟨bP,oP,none⟩) nP cP,D (some ⟨bB,oB,none⟩) nB cB,D AX nX cX],29),(w.heap.size+1,#[D AS nS cS,D AG nG cG],45),(w.heap.size+1+1,#[B C d,B C f,B C ld],53),(w.heap.size+1+1+1,#[B C xa,B C xb,B C (r:Int)],56),(gP,#[B C pc,B C pv,D Aq nq cq],64),(gB,#[D Ab nb cb],61),(gA,cu3,3)]):=⟨(HE0.out.ext hx3').add hb3 (yR HE0.out.xt.size hg3) fun k x hk=>by have:=HE0.out.bl.lt k (b:=x.1) (cs:=x.2.1) (t:=x.2.2) hk;omega⟩
  have HA3:=zZ ha3;have hgw:w.heap.size<=gA:=yR HE0.out.xt.size hg3;clear hx3 hx3' hv3 hiv hlz hb3 ha3 hgA hgA2 hg3 HE0 HF p2;have HSA:=zZ (HS0.out.re hgw);have HTA:=zZ (HT0.out.re hgw);have HQA:=zZ (oa.re HIQ.out hgw);have HBA:=zZ (oc.re HIB.out hgw);have c0:=(HF3.out.at_ 5 rfl).c 0 rfl;go_wp2_with fail;clear c0;go_loopw [41] (fun s41 wr=>∃j:Nat,s41=B C j/\j<=nb/\Bx (∃cur,aA w wr [(w.heap.size,#[B C s.num,D (some ⟨bP,oP,none⟩) nP cP,D (some ⟨bB,oB,none⟩) nB cB,D AX nX cX],29),(w.heap.size+1,#[D AS nS cS,D AG nG cG],45),(w.heap.size+1+1,#[B C d,B C f,B C ld],53),(w.heap.size+1+1+1,#[B C xa,B C xb,B C (r:Int)],56),(gP,#[B C pc,B C pv,D Aq nq cq],64),(gB,#[D Ab nb cb],61),(gA,cur,3)]/\Lz cur nq cA (sF R (bF bk j)))) (fun j _=>nb-(intOf j).toNat)
  case atStart=>exact⟨0,rfl,by omega,⟨⟨cu3,HF3.out,by rw[M6];exact HA3.out⟩⟩⟩
  case round =>
   obtain⟨j,rfl,hj,HR⟩:=hrel;obtain⟨cur,hfr,hac⟩:=HR.out;have HFr:Bx (aA w wr [(w.heap.size,#[B C s.num,D (some ⟨bP,oP,none⟩) nP cP,D (some ⟨bB,oB,none⟩) nB cB,D AX nX cX],29),(w.heap.size+1,#[D AS nS cS,D AG nG cG],45),(w.heap.size+1+1,#[B C d,B C f,B C ld],53),(w.heap.size+1+1+1,#[B C xa,B C xb,B C (r:Int)],56),(gP,#[B C pc,B C pv,D Aq nq cq],64),(gB,#[D Ab nb cb],61),(gA,cur,3)]):=⟨hfr⟩
   have HAC:Bx (Lz cur nq cA (sF R (bF bk j))):=⟨hac⟩
   clear HR HF3 HA3 hfr hac;by_cases hjn:j<nb
   ·obtain⟨bb,ob,_,_,rfl,-⟩:=HBA.out.at_ hjn;obtain⟨vpg,pg,hcp,hipg,HPG⟩:=bj.page HBA.out hjn;obtain⟨Ap,np,cp,rfl,-,-,hmp,HNP⟩:=hipg.open_;have HIP:=zZ hipg;obtain⟨y,hpf,hpe,hpl,hpv⟩:=HAP.out j pg HPG.out;have HPF:=zZ hpf;have HPE:=zZ hpe;have HPV:=zZ hpv;have HPL:=zZ hpl;replace hcp:=HFr.out.xt.cell hcp;clear hipg hpf hpe hpl hpv;have i0':=(HFr.out.at_ 1 rfl).c 0 rfl;have i1':=(HFr.out.at_ 1 rfl).c 1 rfl;have x0:=(HFr.out.at_ 3 rfl).c 0 rfl;go_upto_region 7 with (go_at_call 46;refine (ke _ t xa (j:Int) _ (p:=gA) (HTA.out.ext HFr.out.xt) HHA.out (by have:=HN.out.2;omega)).mono ?_;rintro e w5 ⟨yc,yg,yt,ys,yq,ych,yA,yn,ycc,rfl,hyd,hyi,hyw,hx5⟩)
    have HYE:Bx (y=⟨yc,yg,yt,ych,⟨ys,yq⟩⟩):=⟨by rw[HPF.out]at hyd;exact hyd⟩
    obtain⟨w6,hw6⟩:=nm ((w5.alloc (.cells #[B C yc,B C yg,B C yt,D yA yn ycc,B C ys,B C yq] 80)):World);obtain⟨gy,hgy⟩:=nm w5.heap.size;have HF6:Bx (aA w w6 [(w.heap.size,#[B C s.num,D (some ⟨bP,oP,none⟩) nP cP,D (some ⟨bB,oB,none⟩) nB cB,D AX nX cX],29),(w.heap.size+1,#[D AS nS cS,D AG nG cG],45),(w.heap.size+1+1,#[B C d,B C f,B C ld],53),(w.heap.size+1+1+1,#[B C xa,B C xb,B C (r:Int)],56),(gP,#[B C pc,B C pv,D Aq nq cq],64),(gB,#[D (some ⟨bb,ob,none⟩) nb cb],61),(gA,cur,3)]):=⟨by rw[hw6];exact (HFr.out.ext hx5).ext ((zE _).alloc _)⟩
    have HB6:Bx (Bk w6 gy #[B C yc,B C yg,B C yt,D yA yn ycc,B C ys,B C yq] 80):=⟨by rw[hw6,hgy];exact Bk.new _ _ _⟩
    have HY6:Bx (ak gA w6 (D yA yn ycc) ych):=⟨by rw[hw6];exact hyi.ext (hx5.alloc _)⟩
    rw[<-hw6,<-hgy];clear hw6 hgy hx5 hyd hyi hyw HFr i0' i1' x0 hcp;obtain⟨p0,p1,p2⟩:=(HF6.out.at_ 4 rfl).p3 rfl;have c0:=(HF6.out.at_ 5 rfl).c 0 rfl;obtain⟨h0,h1,h2⟩:=(HF6.out.at_ 2 rfl).p3 rfl;have y3:=HB6.out.c 3 rfl;go_upto_region 8 with (go_at_call 83;refine (PB pc pv d f ld (j:Int) _ _ _ pps bk ych _ (p:=gA) (by have:=(HF6.out.at_ 6 rfl).lt;exact this) (HQA.out.ext (bC.stab gA) HF6.out.xt) (HBA.out.ext (RI.stab gA) HF6.out.xt) HY6.out ⟨by omega,by omega⟩).mono ?_;rintro e w7 ⟨v7,rfl,hi7,hx7⟩;obtain⟨A7,n7,c7,rfl,-,-,hm7,HL7⟩:=hi7.open_)
    have HF7:=bx (HF6.out.ext hx7);have HI7:Bx (ak gA w7 (D A7 n7 c7) (d9 pc pv pps bk d f ld (j:Int) ych)):=⟨hi7⟩
    obtain rfl:=HYE.out;have HPE2:=HPE.out;have HPV2:=HPV;have HPL2:=HPL;simp only at HPE2 HPV2 HPL2;rw[HPE2];have hn7:nq=n7:=by have:=HL7.out;have:=HPL2.out;have:=HNQ.out;omega
    subst hn7;clear HPE2 HPE HPV HPL HPF hi7 hx7 HF6 HB6 HY6 HYE p0 p1 p2 c0 h0 h1 h2 y3 HL7;go_upto_region 10 with (fail)
    go_wp2_with fail;obtain⟨wo,rfl⟩:=nm (w7:World);go_loopw [69] (fun s69 wr=>∃m:Nat,s69=B C m/\m<=np/\Bx (∃cur,aA w wr [(w.heap.size,#[B C s.num,D (some ⟨bP,oP,none⟩) nP cP,D (some ⟨bB,oB,none⟩) nB cB,D AX nX cX],29),(w.heap.size+1,#[D AS nS cS,D AG nG cG],45),(w.heap.size+1+1,#[B C d,B C f,B C ld],53),(w.heap.size+1+1+1,#[B C xa,B C xb,B C (r:Int)],56),(gP,#[B C pc,B C pv,D Aq nq cq],64),(gB,#[D (some ⟨bb,ob,none⟩) nb cb],61),(gA,cur,3)]/\Lz cur nq cA (sF R (bF bk j+m))/\ak gA wr (D A7 nq c7) (d9 pc pv pps bk d f ld (j:Int) ych))) (fun m _=>np-(intOf m).toNat)
    case atStart=>exact⟨0,rfl,by omega,⟨⟨cur,HF7.out,HAC.out,HI7.out⟩⟩⟩
    case round =>
     obtain⟨m,rfl,hm,HR⟩:=hrel;obtain⟨cu8,hfr,hac,hir⟩:=HR.out;have HF8:Bx (aA w wr [(w.heap.size,#[B C s.num,D (some ⟨bP,oP,none⟩) nP cP,D (some ⟨bB,oB,none⟩) nB cB,D AX nX cX],29),(w.heap.size+1,#[D AS nS cS,D AG nG cG],45),(w.heap.size+1+1,#[B C d,B C f,B C ld],53),(w.heap.size+1+1+1,#[B C xa,B C xb,B C (r:Int)],56),(gP,#[B C pc,B C pv,D Aq nq cq],64),(gB,#[D (some ⟨bb,ob,none⟩) nb cb],61),(gA,cu8,3)]):=⟨hfr⟩
     have HA8:Bx (Lz cu8 nq cA (sF R (bF bk j+m))):=⟨hac⟩
     have HI8:Bx (ak gA wr (D A7 nq c7) (d9 pc pv pps bk d f ld (j:Int) ych)):=⟨hir⟩
     clear HR HF7 HAC HI7 hfr hac hir;by_cases hmn:m<np
     ·obtain⟨bp,op,z,rfl,hcz,HZ,-,-⟩:=HIP.out.at_ hmn;replace hcz:=HF8.out.xt.cell hcz;obtain⟨hz1,hz2⟩:=QC HBB.out HPG.out HZ.out;obtain⟨u,hu⟩:=nm (bF bk j+m);rw[<-hu]at hz1 hz2 HA8;subst hz1;have hun:u<nq:=by have:=HNQ.out;omega
      obtain⟨vv,hv1,hv2⟩:=HPV2.out u (zW HZ.out) hz2;obtain⟨b7,o7,z7,rfl,hc7,HZ7,-,-⟩:=HI8.out.at_ hun;obtain rfl:vv=z7:=by have:=HZ7.out;rw[hv1]at this;injection this
      have HAN:=zZ (HA8.out.put hun vv);have hset:=Pa hv2;have HST:=zZ hset;have HU:=zZ hu;have hg0:wr.cell? ⟨gA,u,none⟩=some _:=(HF8.out.at_ 6 rfl).cell (HA8.out.get (v:=(sF R u)[u]'(by rw[HA8.out.len];exact hun)) (zV _));have hg1:=(HF8.out.at_ 6 rfl).froz u;have hcA:nq<=cA:=HA8.out.le;clear hz2 hv1 hv2 hset hu HZ7;go_wp2_with fail;have hF9:=HF8.out.set 6 rfl u (B C vv);have hI9:=HI8.out.xt (XT.setCell (XT.refl gA wr) (a:=⟨gA,u,none⟩) rfl (B C vv));go_roundw
      case rel=>exact⟨m+1,by go_num,by omega,⟨⟨_,hF9,by rw[<-wC,<-HU.out,<-HST.out];exact HAN.out,hI9⟩⟩⟩
      case measure=>simp[intOf];omega
     ·obtain rfl:m=np:=by omega
      have HCS:=zZ (show bF bk (j+1)=bF bk j+m by rw[i3 HPG.out,HNP.out]);go_wp2_with fail;go_roundw
      case rel=>exact⟨j+1,by go_num,by omega,⟨⟨cu8,HF8.out,by rw[HCS.out];exact HA8.out⟩⟩⟩
      case measure=>simp[intOf];omega
   ·obtain rfl:j=nb:=by omega
    have hcl:bF bk j=pps.length:=by rw[<-HNB.out];exact Nb HBB.out
    have HFI:Bx (hZ wr w.heap.size (D (some ⟨gA,0,none⟩) nq cA) R):=⟨by have h:=HAC.out;rw[hcl,<-HRL.out,O7]at h;exact h.intV (HFr.out.at_ 6 rfl) hgw HRI.out (by rw[HRL.out,HNQ.out];omega)⟩
    go_wp2_with fail;refine bodyPost_ret (v:=.tuple #[D (some ⟨gA,0,none⟩) nq cA,B C 0]) (by simp[results,results45,go_sem]) rfl ⟨⟨D (some ⟨gA,0,none⟩) nq cA,rfl,HFI.out⟩,HFr.out.xt⟩
def Pp(p:Nat):World->List Value->Np->Prop:=fun w cs x=>∃u1 u2,cs=[B C x.num,B C x.pap,B C x.cand,B C x.cen,B C x.var,u1,u2]/\ak p w u1 x.pgs/\ak p w u2 x.ans
theorem Pp.stab(p:Nat):lV p (Pp p):=by rintro w w' cs l ⟨u1,u2,rfl,h1,h2⟩ e;exact⟨u1,u2,rfl,h1.xt e,h2.xt e⟩
abbrev Me (p:Nat):World->Value->List Np->Prop:=bj p 7 (Pp p)
theorem Me.read{b off n c k:Nat}{w wx:World}{l:List Np}(h:Me p w (D (some ⟨b,off,none⟩) n c) l)(hx:ab w wx)(hk:k<n) :
  ∃(y0 y1 y2 y3 y4:Int) (ps an:List Int) (A1:Option Addr) (n1 c1:Nat) (A2:Option Addr) (n2 c2:Nat),Hid (l[k]?=some ⟨y0,y1,y2,y3,y4,ps,an⟩)/\ak p w (D A1 n1 c1) ps/\ak p w (D A2 n2 c2) an /\
   wx.cell? ⟨b,off+k*7,none⟩=some (B C y0)/\wx.cell? ⟨b,off+k*7+1,none⟩=some (B C y1)/\wx.cell? ⟨b,off+k*7+2,none⟩=some (B C y2)/\wx.cell? ⟨b,off+k*7+3,none⟩=some (B C y3) /\
   wx.cell? ⟨b,off+k*7+4,none⟩=some (B C y4)/\wx.cell? ⟨b,off+k*7+5,none⟩=some (D A1 n1 c1)/\wx.cell? ⟨b,off+k*7+6,none⟩=some (D A2 n2 c2):=by
 obtain⟨cs,⟨y0,y1,y2,y3,y4,ps,an⟩,-,hc,⟨u1,u2,rfl,h1,h2⟩,HX⟩:=h.cell_ hk;obtain⟨A1,n1,c1,rfl,-⟩:=h1.open_;obtain⟨A2,n2,c2,rfl,-⟩:=h2.open_;exact⟨y0,y1,y2,y3,y4,ps,an,A1,n1,c1,A2,n2,c2,HX,h1,h2,by simpa using hx.cell (hc 0 _ rfl),hx.cell (hc 1 _ rfl),hx.cell (hc 2 _ rfl),hx.cell (hc 3 _ rfl),hx.cell (hc 4 _ rfl),hx.cell (hc 5 _ rfl),hx.cell (hc 6 _ rfl)⟩
def Mr(i:r6)(c:Int)(ps:List Int)(g:Nat):Bool:=match dG i.pgs c (g:Int),ps[g]? with
 |some q,some y=>decide (q.cont=y)
 |_,_=>false
def Mf(s:dl)(i:r6)(c:Np):Bool:=match fo s.xp c.cand with
 |some x=>decide (c.num=s.num*10000+x.cand)&&(decide (c.pap=s.num)&&(decide (c.cen=x.cen)&&(decide (c.var=x.var)&&(decide (c.pgs.length=F9 s x.var)&&(List.range c.pgs.length).all (Mr i x.cand c.pgs)))))
 |none=>false
section
variable {s:dl} {i:r6} {l:List Np} {k:Nat} {c b:Np}
theorem MT(hx:l[0]?=some c):j8 s i l 0=Mf s i c:=by unfold j8 Mf;rw[hx];simp only[yK];rfl
theorem MS(hx:l[k+1]?=some c)(hy:l[k]?=some b):j8 s i l (k+1)=(decide (b.num<c.num)&&Mf s i c):=by unfold j8 Mf J8;simp only[hx,hy];rfl
theorem Pc(h:gq s i=false):d7 s i l=false:=by unfold d7;rw[h];rfl
theorem d8(hk:k<l.length)(h:j8 s i l k=false):d7 s i l=false:=by unfold d7;rw[hJ hk h,Bool.and_false]
theorem MQ(h1:gq s i=true)(h2:∀k,k<l.length->j8 s i l k=true):d7 s i l=true:=by unfold d7;rw[h1,j9 h2];rfl
theorem Nn(h:fo s.xp c.cand=none):Mf s i c=false:=by unfold Mf;rw[h]
theorem MA{x:fv}(h:fo s.xp c.cand=some x):Mf s i c=(decide (c.num=s.num*10000+x.cand)&&(decide (c.pap=s.num)&&(decide (c.cen=x.cen)&&(decide (c.var=x.var)&&(decide (c.pgs.length=F9 s x.var)&&(List.range c.pgs.length).all (Mr i x.cand c.pgs)))))):=by unfold Mf;rw[h]
end
theorem Nu(v vi vl:Value)(s:dl)(t:r6)(l:List Np)(w:World)(hp:p<w.heap.size)(hs:aR p w v s)(ht:aK p w vi t)(hl:Me p w vl l)(hn1:t.sts.length<=1000)(hn2:t.pgs.length<=1000)(hn3:l.length<=1000000) :
  Calls prog 20 #[v,vi,vl] w fun e w'=>e=.returned (.bool (d7 s t l))/\ab w w':=by
 have HS0:=zZ hs;have HT0:=zZ ht;obtain⟨vP,vB,vX,rfl,hP,hB,hX,hnum⟩:=hs;obtain⟨AP,nP,cP,rfl,-⟩:=hP.open_;obtain⟨AB,nB,cB,rfl,hnB,hcB,hmB,HLB⟩:=hB.open_;obtain⟨AX,nX,cX,rfl,-⟩:=hX.open_;obtain⟨vS,vG,rfl,hS,hG⟩:=ht;obtain⟨AS,nS,cS,rfl,-⟩:=hS.open_;obtain⟨AG,nG,cG,rfl,-⟩:=hG.open_;obtain⟨Al,nl,cl,rfl,hnl,hcl,hml,HLL⟩:=hl.open_;have HL:Bx (Me p w (D Al nl cl) l):=⟨hl⟩
 have HB0:Bx (l9 p w (D AB nB cB) s.bk):=⟨hB⟩
 have HN:Bx (t.sts.length<=1000/\t.pgs.length<=1000):=⟨⟨hn1,hn2⟩⟩
 have hnl3:nl<=1000000:=by have:=HLL.out;omega
 clear hP hB hX hnum hS hG hn1 hn2 hl hn3;obtain⟨w1,hw1⟩:=nm (((w.alloc (.cells #[B C s.num,D AP nP cP,D AB nB cB,D AX nX cX] 29)).alloc (.cells #[D AS nS cS,D AG nG cG] 45)):World);have HF:Bx (aA w w1 [(w.heap.size,#[B C s.num,D AP nP cP,D AB nB cB,D AX nX cX],29),(w.heap.size+1,#[D AS nS cS,D AG nG cG],45)]):=⟨by rw[hw1];exact ((aA.start w).push _ _ rfl).push _ _ (by simp)⟩
 go_enter func20,ntmps20
 go_upto_region 1 with (fail)
 rw[<-hw1];clear hw1;obtain⟨z0,z1,z2,z3⟩:=(HF.out.at_ 0 rfl).p4 rfl;obtain⟨i0,i1⟩:=(HF.out.at_ 1 rfl).p2 rfl;go_wp2_with fail;refine (Ms _ _ s t _ (p:=p) (zB hp HF.out.xt.size) (HS0.out.ext HF.out.xt) (HT0.out.ext HF.out.xt) HN.out.1 HN.out.2).mono ?_;rintro e w2 ⟨rfl,hx2⟩;have HF2:=bx (HF.out.ext hx2);clear HF hx2 z0 z1 z2 z3 i0 i1;cases hb:gq s t with
 |false =>
  have HE:=zZ (Pc (l:=l) hb);clear hb;go_wp2_with fail;go_ret
  exact⟨aa HE.out.symm,HF2.out.xt⟩
 |true =>
 have HP:=zZ (MP hb);have HBL:=zZ hb;have hsn:0<=s.num/\s.num<=31:=HP.out.1.num;obtain⟨hsn1,hsn2⟩:=hsn;clear hb;go_wp2_with fail;go_loopw [21] (fun s21 wr=>∃k:Nat,s21=B C k/\k<=nl/\Bx (aA w wr [(w.heap.size,#[B C s.num,D AP nP cP,D AB nB cB,D AX nX cX],29),(w.heap.size+1,#[D AS nS cS,D AG nG cG],45)]/\∀j,j<k->j8 s t l j=true)) (fun k _=>nl-(intOf k).toNat)
 case atStart=>exact⟨0,rfl,by omega,⟨⟨HF2.out,fun j hj=>by omega⟩⟩⟩
 case round =>
  obtain⟨k,rfl,hk,HR⟩:=hrel;have HFr:Bx (aA w wr [(w.heap.size,#[B C s.num,D AP nP cP,D AB nB cB,D AX nX cX],29),(w.heap.size+1,#[D AS nS cS,D AG nG cG],45)]):=⟨HR.out.1⟩
  have HA:Bx (∀j,j<k->j8 s t l j=true):=⟨HR.out.2⟩
  clear HR HF2;by_cases hkn:k<nl
  ·obtain⟨bl,ol,_,_,rfl,-⟩:=HL.out.at_ hkn;obtain⟨y0,y1,y2,y3,y4,ps,an,A1,n1,c1,A2,n2,c2,HX,hi1,-,t0,t1,t2,t3,t4,t5,t6⟩:=Me.read HL.out HFr.out.xt hkn;obtain⟨_,_,_,e9,-,-,hm1,HN1⟩:=hi1.open_;cases e9;have HI1:=zZ hi1;have HKL:=zZ (show k<l.length by have:=HLL.out;omega);clear hi1;go_upto_region 6 with (fail)
   obtain⟨gs,hgs⟩:=nm wr.heap.size;obtain⟨w2,hw2⟩:=nm ((wr.alloc (.cells #[B C y0,B C y1,B C y2,B C y3,B C y4,D A1 n1 c1,D A2 n2 c2] 58)):World);have hx2:ab wr w2:=by rw[hw2];exact (zE _).alloc _
   have HF2:Bx (aA w w2 [(w.heap.size,#[B C s.num,D AP nP cP,D AB nB cB,D AX nX cX],29),(w.heap.size+1,#[D AS nS cS,D AG nG cG],45),(gs,#[B C y0,B C y1,B C y2,B C y3,B C y4,D A1 n1 c1,D A2 n2 c2],58)]):=⟨by rw[hw2];exact HFr.out.push _ _ hgs.symm⟩
   rw[<-hw2,<-hgs];clear hw2 hgs t0 t1 t2 t3 t4 t5 t6;have y0c:=(HF2.out.at_ 2 rfl).c 0 rfl;have HXW:=bx (HFr.out.xt);clear HFr;rcases vE k with hk0|hk0
   ·subst hk0;have HG:=zZ (MT (s:=s) (i:=t) HX.out);refine zQ 99 fun w3 kS=>?_;refine zS 13 [(0,26),(1,27),(2,28),(3,29),(4,30),(5,31),(6,32),(7,33),(8,34),(9,35),(10,36),(11,37),(12,38)] kS ?_;iterate 3 refine zT ?_
    iterate 9 (apply zK;exact⟨rfl,rfl⟩;simp only[kA];exact rfl)
    refine zT ?_;refine zN (zD ?_);have HF3:=zZ (HF2.out.ext kS);clear kS hx2 y0c HF2;have y2c:=(HF3.out.at_ 2 rfl).c 2 rfl;obtain⟨z0,z1,z2,z3⟩:=(HF3.out.at_ 0 rfl).p4 rfl;go_upto_region 9 with (go_at_call 52;refine (kR _ s y2 _ (HS0.out.ext HF3.out.xt) HP.out.1).mono ?_;rintro e w4 ⟨⟨fa,fb,fd,rfl,hfx0⟩,hx4⟩)
    have HFX:=zZ hfx0;obtain⟨gx,hgx⟩:=nm w4.heap.size;obtain⟨w5,hw5⟩:=nm ((w4.alloc (.cells #[B C fa,B C fb,B C fd] 56)):World);have HF5:Bx (aA w w5 [(w.heap.size,#[B C s.num,D AP nP cP,D AB nB cB,D AX nX cX],29),(w.heap.size+1,#[D AS nS cS,D AG nG cG],45),(gs,#[B C y0,B C y1,B C y2,B C y3,B C y4,D A1 n1 c1,D A2 n2 c2],58),(gx,#[B C fa,B C fb,B C fd],56)]):=⟨by rw[hw5];exact (HF3.out.ext hx4).push _ _ hgx.symm⟩
    rw[<-hw5,<-hgx];clear hw5 hfx0 hx4 hgx HF3 y2c z0 z1 z2 z3;have s0:=(HF5.out.at_ 0 rfl).c 0 rfl;have s2:=(HF5.out.at_ 0 rfl).c 2 rfl;obtain⟨t0,t1,t2,t3,t4,t5,t6⟩:=(HF5.out.at_ 2 rfl).p7 rfl;obtain⟨x0,x1,x2⟩:=(HF5.out.at_ 3 rfl).p3 rfl;have y5c:=t5;cases hfx:fo s.xp y2 with
    |none =>
     have HE:=zZ (show d7 s t l=false from d8 HKL.out (by rw[HG.out];exact Nn hfx));clear hfx;go_wp2_with fail;go_ret;exact⟨aa HE.out.symm,HF5.out.xt⟩
    |some x0 =>
     obtain rfl:x0=⟨fa,fb,fd⟩:=by have:=HFX.out;rw[hfx]at this;exact this
     have HSO:=zZ (MA (s:=s) (i:=t) (c:=⟨y0,y1,y2,y3,y4,ps,an⟩) hfx);have hxb:=rL HP.out.1 (qR hfx).1;have HCA:=zZ (qR hfx).2;simp only at hxb;obtain⟨xb1,xb2,xb3,xb4,xb5,xb6⟩:=hxb;obtain⟨pq,bk,hpq,hbk,hbb,-,-,-⟩:=rT HP.out.1 xb3 xb4;have hbn:=ND hbb;have hnp:F9 s fd=bk.length:=by unfold F9;rw[hbk];rfl
     have hbks:=HP.out.1.bks;obtain⟨r,rfl⟩:=zG xb3;rw[yC]at hpq hbk;have hrB:r<nB:=by have:=HLB.out;omega
     obtain⟨bB,oB,_,_,rfl,-⟩:=HB0.out.at_ hrB;obtain⟨Ab,nb,cb,b0,-,HNB⟩:=lJ HB0.out hbk HF5.out.xt.xt;have hnb:nb<=12:=by have:=HNB.out;omega
     have HNP:=zZ hnp;clear hfx HFX hpq hbk hbb hbn hnp hbks;by_cases q1:y0=s.num*10000+fa;case neg =>
      have HE:=zZ (show d7 s t l=false from d8 HKL.out (by rw[HG.out,HSO.out];simp[q1]));have q1b:(y0 != s.num*10000+fa)=true:=by simp[q1]
      clear q1;go_wp2_with fail;go_ret;exact⟨aa HE.out.symm,HF5.out.xt⟩
     have q1b:(y0 != s.num*10000+fa)=false:=by simp[q1]
     by_cases q2:y1=s.num;case neg =>
      have HE:=zZ (show d7 s t l=false from d8 HKL.out (by rw[HG.out,HSO.out];simp[q2]));have q2b:(y1 != s.num)=true:=by simp[q2]
      clear q2 q1;go_wp2_with fail;go_ret;exact⟨aa HE.out.symm,HF5.out.xt⟩
     have q2b:(y1 != s.num)=false:=by simp[q2]
     by_cases q3:y3=fb;case neg =>
      have HE:=zZ (show d7 s t l=false from d8 HKL.out (by rw[HG.out,HSO.out];simp[q3]));have q3b:(y3 != fb)=true:=by simp[q3]
      clear q3 q2 q1;go_wp2_with fail;go_ret;exact⟨aa HE.out.symm,HF5.out.xt⟩
     have q3b:(y3 != fb)=false:=by simp[q3]
     by_cases q4:y4=(r:Int)
     case neg =>
      have HE:=zZ (show d7 s t l=false from d8 HKL.out (by rw[HG.out,HSO.out];simp[q4]));have q4b:(y4 != (r:Int))=true:=by simp[q4]
      clear q4 q3 q2 q1;go_wp2_with fail;go_ret;exact⟨aa HE.out.symm,HF5.out.xt⟩
     have q4b:(y4 != (r:Int))=false:=by simp[q4]
     have HS2:=zZ (show Mf s t ⟨y0,y1,y2,y3,y4,ps,an⟩=(decide (ps.length=F9 s (r:Int))&&(List.range ps.length).all (Mr t fa ps)) by rw[HSO.out];simp only[decide_eq_true q1,decide_eq_true q2,decide_eq_true q3,decide_eq_true q4,yK]);clear q1 q2 q3 q4 HSO;by_cases q5:n1=nb;case neg =>
      have HE:=zZ (show d7 s t l=false from d8 HKL.out (by rw[HG.out,HS2.out,decide_eq_false (by rw[HNP.out,HNB.out,HN1.out];exact q5)];rfl));have q5b:((n1:Int)!=(nb:Int))=true:=by simp;omega
      go_wp2_with fail;all_goals first
       |(exfalso;omega)
       |(go_ret;exact⟨aa HE.out.symm,HF5.out.xt⟩)
     subst q5;have HS3:=zZ (show j8 s t l 0=(List.range ps.length).all (Mr t fa ps) by rw[HG.out,HS2.out,decide_eq_true (by rw[HNP.out,HNB.out,HN1.out]),yK]);have q5b:((n1:Int)!=(n1:Int))=false:=by simp
     go_wp2_with fail;clear q1b q2b q3b q4b q5b b0 s0 s2 x0 x1 x2 y5c;obtain⟨wo,rfl⟩:=nm (w5:World);go_loopw [95] (fun s95 wr=>∃m:Nat,s95=B C m/\m<=n1/\Bx (aA w wr [(w.heap.size,#[B C s.num,D AP nP cP,D (some ⟨bB,oB,none⟩) nB cB,D AX nX cX],29),(w.heap.size+1,#[D AS nS cS,D AG nG cG],45),(gs,#[B C y0,B C y1,B C y2,B C y3,B C y4,D A1 n1 c1,D A2 n2 c2],58),(gx,#[B C fa,B C fb,B C (r:Int)],56)]/\∀g,g<m->Mr t fa ps g=true)) (fun m _=>n1-(intOf m).toNat)
     case atStart=>exact⟨0,rfl,by omega,⟨⟨HF5.out,fun g hg=>by omega⟩⟩⟩
     case round =>
      obtain⟨m,rfl,hm,HR⟩:=hrel;have HF6:Bx (aA w wr [(w.heap.size,#[B C s.num,D AP nP cP,D (some ⟨bB,oB,none⟩) nB cB,D AX nX cX],29),(w.heap.size+1,#[D AS nS cS,D AG nG cG],45),(gs,#[B C y0,B C y1,B C y2,B C y3,B C y4,D A1 n1 c1,D A2 n2 c2],58),(gx,#[B C fa,B C fb,B C (r:Int)],56)]):=⟨HR.out.1⟩
      have HM:Bx (∀g,g<m->Mr t fa ps g=true):=⟨HR.out.2⟩
      clear HR HF5;by_cases hmn:m<n1
      ·have i0:=(HF6.out.at_ 1 rfl).c 0 rfl;have i1:=(HF6.out.at_ 1 rfl).c 1 rfl;have x0:=(HF6.out.at_ 3 rfl).c 0 rfl;obtain⟨b1,o1,z,hA1,hcz,HZ,-,-⟩:=HI1.out.at_ hmn;have HA1:=zZ hA1;clear hA1;go_upto_region 18 with (go_at_call 46;refine (ke _ t fa (m:Int) _ (p:=p) (HT0.out.ext HF6.out.xt) HP.out.2.1 (by have:=HN.out.2;omega)).mono ?_;rintro e w7 ⟨vc,vg,vt,vs,vq,vch,vA,vn,vcc,rfl,hyd,-,-,hx7⟩)
       obtain⟨gp,hgp⟩:=nm w7.heap.size;obtain⟨w8,hw8⟩:=nm ((w7.alloc (.cells #[B C vc,B C vg,B C vt,D vA vn vcc,B C vs,B C vq] 80)):World);have HF8:Bx (aA w w8 [(w.heap.size,#[B C s.num,D AP nP cP,D (some ⟨bB,oB,none⟩) nB cB,D AX nX cX],29),(w.heap.size+1,#[D AS nS cS,D AG nG cG],45),(gs,#[B C y0,B C y1,B C y2,B C y3,B C y4,D A1 n1 c1,D A2 n2 c2],58),(gx,#[B C fa,B C fb,B C (r:Int)],56)]):=⟨by rw[hw8];exact (HF6.out.ext hx7).ext ((zE _).alloc _)⟩
       have HB8:Bx (Bk w8 gp #[B C vc,B C vg,B C vt,D vA vn vcc,B C vs,B C vq] 80):=⟨by rw[hw8,hgp];exact Bk.new _ _ _⟩
       rw[<-hw8,<-hgp];have HYD:=zZ hyd;clear hw8 hgp hx7 hyd i0 i1 x0 HF6;cases hpf:dG t.pgs fa (m:Int) with
       |none =>
        have HE:=zZ (show d7 s t l=false from d8 HKL.out (by rw[HS3.out];exact hJ (by rw[HN1.out];exact hmn) (by unfold Mr;rw[hpf])));clear hpf HYD;refine zQ 99 fun we kS=>?_;refine zS 12 [(0,106),(1,107),(2,108),(3,109),(4,110),(5,111),(6,112),(7,113),(8,114),(9,115),(10,116),(11,117)] kS ?_;iterate 3 refine zT ?_
        iterate 8 (apply zK;exact⟨rfl,rfl⟩;simp only[kA];exact rfl)
        refine zT ?_;refine zN (zD ?_);go_wp2_with fail;go_ret
        exact⟨aa HE.out.symm,HF8.out.xt.trans kS⟩
       |some q0 =>
        obtain rfl:q0=⟨vc,vg,vt,vch,⟨vs,vq⟩⟩:=by have:=HYD.out;rw[hpf]at this;exact this
        have HPO:=zZ (show Mr t fa ps m=decide (vt=z) by unfold Mr;rw[hpf,HZ.out]);clear hpf HYD;have v2:=HB8.out.c 2 rfl;have s5:w8.cell? ⟨gs,5,none⟩=some (D A1 n1 c1):=(HF8.out.at_ 2 rfl).c 5 rfl;rw[HA1.out]at s5;replace hcz:=HF8.out.xt.cell hcz;by_cases hz:vt=z
        ·rw[decide_eq_true hz]at HPO;have hzb:(vt != z)=false:=by simp[hz]
         clear hz;refine zQ 99 fun we kS=>?_;refine zS 12 [(0,106),(1,107),(2,108),(3,109),(4,110),(5,111),(6,112),(7,113),(8,114),(9,115),(10,116),(11,117)] kS ?_;iterate 12 refine zT ?_ (y:=by intro wk hk;obtain⟨_,_,_⟩:=zkc3 hk v2 s5 hcz;go_simp;try with_reducible rfl)
         refine zN (zD ?_);have HF9:=zZ (HF8.out.ext kS);clear v2 s5 hcz hzb kS HF8 HB8;go_wp2_with fail;go_roundw
         case rel=>exact⟨m+1,by go_num,by omega,⟨⟨HF9.out,fun g hg=>by rcases zU g m with h|h;exact HM.out g h;obtain rfl:g=m:=(by omega);exact HPO.out⟩⟩⟩
         case measure=>simp[intOf];omega
        ·rw[decide_eq_false hz]at HPO;have HE:=zZ (show d7 s t l=false from d8 HKL.out (by rw[HS3.out];exact hJ (by rw[HN1.out];exact hmn) HPO.out));have hzb:(vt != z)=true:=by simp[hz]
         clear hz;refine zQ 99 fun we kS=>?_;refine zS 12 [(0,106),(1,107),(2,108),(3,109),(4,110),(5,111),(6,112),(7,113),(8,114),(9,115),(10,116),(11,117)] kS ?_;iterate 12 refine zT ?_ (y:=by intro wk hk;obtain⟨_,_,_⟩:=zkc3 hk v2 s5 hcz;go_simp;try with_reducible rfl)
         refine zN (zD ?_);go_wp2_with fail;go_ret
         exact⟨aa HE.out.symm,HF8.out.xt.trans kS⟩
      ·obtain rfl:m=n1:=by omega
       have HT:=zZ (show j8 s t l 0=true by rw[HS3.out];exact j9 fun g hg=>HM.out g (by have:=HN1.out;omega));go_wp2_with fail;go_roundw
       case rel=>exact⟨0+1,by go_num,by omega,⟨⟨HF6.out.take 2,fun j hj=>by rcases zU j 0 with h|h;exact HA.out j h;obtain rfl:j=0:=(by omega);exact HT.out⟩⟩⟩
       case measure=>simp[intOf];omega
   ·obtain⟨m,hm⟩:∃m,m+1=k:=⟨k-1,by omega⟩
    have hmn:m<nl:=by omega
    obtain⟨u0,u1,u2,u3,u4,ups,uas,B1,k1,d1,B2,k2,d2,HU,-,-,t0,-⟩:=Me.read HL.out (HXW.out.trans hx2) hmn;have HSG:=zZ (show j8 s t l k=(decide (u0<y0)&&Mf s t ⟨y0,y1,y2,y3,y4,ps,an⟩) by rw[<-hm];exact MS (by rw[hm];exact HX.out) HU.out);have m1:IntKind.i64.wrap ((k:Int)-1)=(m:Int):=by rw[yN _ (by omega)];omega
    have hkg:decide ((k:Int)>0)=true:=by simp;omega
    have hmm1:m+1<=k:=by omega
    have hmm2:k<=m+1:=by omega
    clear hm;by_cases hlt:u0<y0
    ·have HG:=zZ (show j8 s t l k=Mf s t ⟨y0,y1,y2,y3,y4,ps,an⟩ by rw[HSG.out,decide_eq_true hlt,yK]);have hge:decide (u0≥y0)=false:=decide_eq_false (by omega);refine zQ 99 fun w3 kS=>?_;refine zS 13 [(0,26),(1,27),(2,28),(3,29),(4,30),(5,31),(6,32),(7,33),(8,34),(9,35),(10,36),(11,37),(12,38)] kS ?_;iterate 13 refine zT ?_ (y:=by intro wk hk;obtain⟨_,_⟩:=zkc2 hk y0c t0;go_simp;try with_reducible rfl)
     refine zN (zD ?_);have HF3:=zZ (HF2.out.ext kS);clear kS hx2 y0c HF2 t0 m1 hkg hge hlt HSG;have y2c:=(HF3.out.at_ 2 rfl).c 2 rfl;obtain⟨z0,z1,z2,z3⟩:=(HF3.out.at_ 0 rfl).p4 rfl;go_upto_region 9 with (go_at_call 52;refine (kR _ s y2 _ (HS0.out.ext HF3.out.xt) HP.out.1).mono ?_;rintro e w4 ⟨⟨fa,fb,fd,rfl,hfx0⟩,hx4⟩)
     have HFX:=zZ hfx0;obtain⟨gx,hgx⟩:=nm w4.heap.size;obtain⟨w5,hw5⟩:=nm ((w4.alloc (.cells #[B C fa,B C fb,B C fd] 56)):World);have HF5:Bx (aA w w5 [(w.heap.size,#[B C s.num,D AP nP cP,D AB nB cB,D AX nX cX],29),(w.heap.size+1,#[D AS nS cS,D AG nG cG],45),(gs,#[B C y0,B C y1,B C y2,B C y3,B C y4,D A1 n1 c1,D A2 n2 c2],58),(gx,#[B C fa,B C fb,B C fd],56)]):=⟨by rw[hw5];exact (HF3.out.ext hx4).push _ _ hgx.symm⟩
     rw[<-hw5,<-hgx];clear hw5 hfx0 hx4 hgx HF3 y2c z0 z1 z2 z3;have s0:=(HF5.out.at_ 0 rfl).c 0 rfl;have s2:=(HF5.out.at_ 0 rfl).c 2 rfl;obtain⟨t0,t1,t2,t3,t4,t5,t6⟩:=(HF5.out.at_ 2 rfl).p7 rfl;obtain⟨x0,x1,x2⟩:=(HF5.out.at_ 3 rfl).p3 rfl;have y5c:=t5;cases hfx:fo s.xp y2 with
     |none =>
      have HE:=zZ (show d7 s t l=false from d8 HKL.out (by rw[HG.out];exact Nn hfx));clear hfx;go_wp2_with fail;go_ret;exact⟨aa HE.out.symm,HF5.out.xt⟩
     |some x0 =>
      obtain rfl:x0=⟨fa,fb,fd⟩:=by have:=HFX.out;rw[hfx]at this;exact this
      have HSO:=zZ (MA (s:=s) (i:=t) (c:=⟨y0,y1,y2,y3,y4,ps,an⟩) hfx);have hxb:=rL HP.out.1 (qR hfx).1;have HCA:=zZ (qR hfx).2;simp only at hxb;obtain⟨xb1,xb2,xb3,xb4,xb5,xb6⟩:=hxb;obtain⟨pq,bk,hpq,hbk,hbb,-,-,-⟩:=rT HP.out.1 xb3 xb4;have hbn:=ND hbb;have hnp:F9 s fd=bk.length:=by unfold F9;rw[hbk];rfl
      have hbks:=HP.out.1.bks;obtain⟨r,rfl⟩:=zG xb3;rw[yC]at hpq hbk;have hrB:r<nB:=by have:=HLB.out;omega
      obtain⟨bB,oB,_,_,rfl,-⟩:=HB0.out.at_ hrB;obtain⟨Ab,nb,cb,b0,-,HNB⟩:=lJ HB0.out hbk HF5.out.xt.xt;have hnb:nb<=12:=by have:=HNB.out;omega
      have HNP:=zZ hnp;clear hfx HFX hpq hbk hbb hbn hnp hbks;by_cases q1:y0=s.num*10000+fa;case neg =>
       have HE:=zZ (show d7 s t l=false from d8 HKL.out (by rw[HG.out,HSO.out];simp[q1]));have q1b:(y0 != s.num*10000+fa)=true:=by simp[q1]
       clear q1;go_wp2_with fail;go_ret;exact⟨aa HE.out.symm,HF5.out.xt⟩
      have q1b:(y0 != s.num*10000+fa)=false:=by simp[q1]
      by_cases q2:y1=s.num;case neg =>
       have HE:=zZ (show d7 s t l=false from d8 HKL.out (by rw[HG.out,HSO.out];simp[q2]));have q2b:(y1 != s.num)=true:=by simp[q2]
       clear q2 q1;go_wp2_with fail;go_ret;exact⟨aa HE.out.symm,HF5.out.xt⟩
      have q2b:(y1 != s.num)=false:=by simp[q2]
      by_cases q3:y3=fb;case neg =>
       have HE:=zZ (show d7 s t l=false from d8 HKL.out (by rw[HG.out,HSO.out];simp[q3]));have q3b:(y3 != fb)=true:=by simp[q3]
       clear q3 q2 q1;go_wp2_with fail;go_ret;exact⟨aa HE.out.symm,HF5.out.xt⟩
      have q3b:(y3 != fb)=false:=by simp[q3]
      by_cases q4:y4=(r:Int)
      case neg =>
       have HE:=zZ (show d7 s t l=false from d8 HKL.out (by rw[HG.out,HSO.out];simp[q4]));have q4b:(y4 != (r:Int))=true:=by simp[q4]
       clear q4 q3 q2 q1;go_wp2_with fail;go_ret;exact⟨aa HE.out.symm,HF5.out.xt⟩
      have q4b:(y4 != (r:Int))=false:=by simp[q4]
      have HS2:=zZ (show Mf s t ⟨y0,y1,y2,y3,y4,ps,an⟩=(decide (ps.length=F9 s (r:Int))&&(List.range ps.length).all (Mr t fa ps)) by rw[HSO.out];simp only[decide_eq_true q1,decide_eq_true q2,decide_eq_true q3,decide_eq_true q4,yK]);clear q1 q2 q3 q4 HSO;by_cases q5:n1=nb;case neg =>
       have HE:=zZ (show d7 s t l=false from d8 HKL.out (by rw[HG.out,HS2.out,decide_eq_false (by rw[HNP.out,HNB.out,HN1.out];exact q5)];rfl));have q5b:((n1:Int)!=(nb:Int))=true:=by simp;omega
       go_wp2_with fail;all_goals first
        |(exfalso;omega)
        |(go_ret;exact⟨aa HE.out.symm,HF5.out.xt⟩)
      subst q5;have HS3:=zZ (show j8 s t l k=(List.range ps.length).all (Mr t fa ps) by rw[HG.out,HS2.out,decide_eq_true (by rw[HNP.out,HNB.out,HN1.out]),yK]);have q5b:((n1:Int)!=(n1:Int))=false:=by simp
      go_wp2_with fail;clear q1b q2b q3b q4b q5b b0 s0 s2 x0 x1 x2 y5c;obtain⟨wo,rfl⟩:=nm (w5:World);go_loopw [95] (fun s95 wr=>∃m:Nat,s95=B C m/\m<=n1/\Bx (aA w wr [(w.heap.size,#[B C s.num,D AP nP cP,D (some ⟨bB,oB,none⟩) nB cB,D AX nX cX],29),(w.heap.size+1,#[D AS nS cS,D AG nG cG],45),(gs,#[B C y0,B C y1,B C y2,B C y3,B C y4,D A1 n1 c1,D A2 n2 c2],58),(gx,#[B C fa,B C fb,B C (r:Int)],56)]/\∀g,g<m->Mr t fa ps g=true)) (fun m _=>n1-(intOf m).toNat)
      case atStart=>exact⟨0,rfl,by omega,⟨⟨HF5.out,fun g hg=>by omega⟩⟩⟩
      case round =>
       obtain⟨m,rfl,hm,HR⟩:=hrel;have HF6:Bx (aA w wr [(w.heap.size,#[B C s.num,D AP nP cP,D (some ⟨bB,oB,none⟩) nB cB,D AX nX cX],29),(w.heap.size+1,#[D AS nS cS,D AG nG cG],45),(gs,#[B C y0,B C y1,B C y2,B C y3,B C y4,D A1 n1 c1,D A2 n2 c2],58),(gx,#[B C fa,B C fb,B C (r:Int)],56)]):=⟨HR.out.1⟩
       have HM:Bx (∀g,g<m->Mr t fa ps g=true):=⟨HR.out.2⟩
       clear HR HF5;by_cases hmn:m<n1
       ·have i0:=(HF6.out.at_ 1 rfl).c 0 rfl;have i1:=(HF6.out.at_ 1 rfl).c 1 rfl;have x0:=(HF6.out.at_ 3 rfl).c 0 rfl;obtain⟨b1,o1,z,hA1,hcz,HZ,-,-⟩:=HI1.out.at_ hmn;have HA1:=zZ hA1;clear hA1;go_upto_region 18 with (go_at_call 46;refine (ke _ t fa (m:Int) _ (p:=p) (HT0.out.ext HF6.out.xt) HP.out.2.1 (by have:=HN.out.2;omega)).mono ?_;rintro e w7 ⟨vc,vg,vt,vs,vq,vch,vA,vn,vcc,rfl,hyd,-,-,hx7⟩)
        obtain⟨gp,hgp⟩:=nm w7.heap.size;obtain⟨w8,hw8⟩:=nm ((w7.alloc (.cells #[B C vc,B C vg,B C vt,D vA vn vcc,B C vs,B C vq] 80)):World);have HF8:Bx (aA w w8 [(w.heap.size,#[B C s.num,D AP nP cP,D (some ⟨bB,oB,none⟩) nB cB,D AX nX cX],29),(w.heap.size+1,#[D AS nS cS,D AG nG cG],45),(gs,#[B C y0,B C y1,B C y2,B C y3,B C y4,D A1 n1 c1,D A2 n2 c2],58),(gx,#[B C fa,B C fb,B C (r:Int)],56)]):=⟨by rw[hw8];exact (HF6.out.ext hx7).ext ((zE _).alloc _)⟩
        have HB8:Bx (Bk w8 gp #[B C vc,B C vg,B C vt,D vA vn vcc,B C vs,B C vq] 80):=⟨by rw[hw8,hgp];exact Bk.new _ _ _⟩
        rw[<-hw8,<-hgp];have HYD:=zZ hyd;clear hw8 hgp hx7 hyd i0 i1 x0 HF6;cases hpf:dG t.pgs fa (m:Int) with
        |none =>
         have HE:=zZ (show d7 s t l=false from d8 HKL.out (by rw[HS3.out];exact hJ (by rw[HN1.out];exact hmn) (by unfold Mr;rw[hpf])));clear hpf HYD;refine zQ 99 fun we kS=>?_;refine zS 12 [(0,106),(1,107),(2,108),(3,109),(4,110),(5,111),(6,112),(7,113),(8,114),(9,115),(10,116),(11,117)] kS ?_;iterate 3 refine zT ?_
         iterate 8 (apply zK;exact⟨rfl,rfl⟩;simp only[kA];exact rfl)
         refine zT ?_;refine zN (zD ?_);go_wp2_with fail;go_ret
         exact⟨aa HE.out.symm,HF8.out.xt.trans kS⟩
        |some q0 =>
         obtain rfl:q0=⟨vc,vg,vt,vch,⟨vs,vq⟩⟩:=by have:=HYD.out;rw[hpf]at this;exact this
         have HPO:=zZ (show Mr t fa ps m=decide (vt=z) by unfold Mr;rw[hpf,HZ.out]);clear hpf HYD;have v2:=HB8.out.c 2 rfl;have s5:w8.cell? ⟨gs,5,none⟩=some (D A1 n1 c1):=(HF8.out.at_ 2 rfl).c 5 rfl;rw[HA1.out]at s5;replace hcz:=HF8.out.xt.cell hcz;by_cases hz:vt=z
         ·rw[decide_eq_true hz]at HPO;have hzb:(vt != z)=false:=by simp[hz]
          clear hz;refine zQ 99 fun we kS=>?_;refine zS 12 [(0,106),(1,107),(2,108),(3,109),(4,110),(5,111),(6,112),(7,113),(8,114),(9,115),(10,116),(11,117)] kS ?_;iterate 12 refine zT ?_ (y:=by intro wk hk;obtain⟨_,_,_⟩:=zkc3 hk v2 s5 hcz;go_simp;try with_reducible rfl)
          refine zN (zD ?_);have HF9:=zZ (HF8.out.ext kS);clear v2 s5 hcz hzb kS HF8 HB8;go_wp2_with fail;go_roundw
          case rel=>exact⟨m+1,by go_num,by omega,⟨⟨HF9.out,fun g hg=>by rcases zU g m with h|h;exact HM.out g h;obtain rfl:g=m:=(by omega);exact HPO.out⟩⟩⟩
          case measure=>simp[intOf];omega
         ·rw[decide_eq_false hz]at HPO;have HE:=zZ (show d7 s t l=false from d8 HKL.out (by rw[HS3.out];exact hJ (by rw[HN1.out];exact hmn) HPO.out));have hzb:(vt != z)=true:=by simp[hz]
          clear hz;refine zQ 99 fun we kS=>?_;refine zS 12 [(0,106),(1,107),(2,108),(3,109),(4,110),(5,111),(6,112),(7,113),(8,114),(9,115),(10,116),(11,117)] kS ?_;iterate 12 refine zT ?_ (y:=by intro wk hk;obtain⟨_,_,_⟩:=zkc3 hk v2 s5 hcz;go_simp;try with_reducible rfl)
          refine zN (zD ?_);go_wp2_with fail;go_ret
          exact⟨aa HE.out.symm,HF8.out.xt.trans kS⟩
       ·obtain rfl:m=n1:=by omega
        have HT:=zZ (show j8 s t l k=true by rw[HS3.out];exact j9 fun g hg=>HM.out g (by have:=HN1.out;omega));go_wp2_with fail;go_roundw
        case rel=>exact⟨k+1,by go_num,by omega,⟨⟨HF6.out.take 2,fun j hj=>by rcases zU j k with h|h;exact HA.out j h;obtain rfl:j=k:=(by omega);exact HT.out⟩⟩⟩
        case measure=>simp[intOf];omega
    ·have HE:=zZ (show d7 s t l=false from d8 HKL.out (by rw[HSG.out,decide_eq_false hlt];rfl));have hge:decide (u0≥y0)=true:=decide_eq_true (by omega);refine zQ 99 fun w3 kS=>?_;refine zS 13 [(0,26),(1,27),(2,28),(3,29),(4,30),(5,31),(6,32),(7,33),(8,34),(9,35),(10,36),(11,37),(12,38)] kS ?_;iterate 13 refine zT ?_ (y:=by intro wk hk;obtain⟨_,_⟩:=zkc2 hk y0c t0;go_simp;try with_reducible rfl)
     refine zN (zD ?_);go_wp2_with fail;go_ret
     exact⟨aa HE.out.symm,HF2.out.xt.trans kS⟩
  ·obtain rfl:k=nl:=by omega
   have HE:=zZ (show d7 s t l=true from MQ HBL.out fun j hj=>HA.out j (by have:=HLL.out;omega));go_wp2_with fail;go_ret
   exact⟨aa HE.out.symm,HFr.out.xt⟩
theorem Tryz.infoScr:(prog.info? 58).map (fun i=>(i.zero,i.size,i.bytes))=some (some (.agg #[B C 0,B C 0,B C 0,B C 0,B C 0,D none 0 0,D none 0 0]),7,88):=by kernel_rfl
def QB(y:Np×Value×Value):List Value:=[B C y.1.num,B C y.1.pap,B C y.1.cand,B C y.1.cen,B C y.1.var,y.2.1,y.2.2]
def Q1(base:Nat)(w:World)(y:Np×Value×Value):Prop:=hZ w base y.2.1 y.1.pgs/\hZ w base y.2.2 y.1.ans
def kT(base:Nat)(w:World)(v:Value)(ys:List (Np×Value×Value)):Prop:=pU base 58 7 QB (Q1 base) w v ys
section
variable {p base:Nat} {w w' w8 wx:World} {v:Value} {ys:List (Np×Value×Value)} {l:List Int}
theorem kT.isS(h:kT base w v ys)(hp:p<base):Me p w v (ys.map Prod.fst) :=
 pU.isS Prod.fst h hp (by decide) (fun y _=>rfl) fun y _ hy=>⟨y.2.1,y.2.2,rfl,hZ.isI hy.1 hp,hZ.isI hy.2 hp⟩
theorem kT.ext(h:kT base w v ys)(hx:ab w w'):kT base w' v ys:=pU.ext h (fun y hy=>⟨hy.1.ext hx,hy.2.ext hx⟩) hx
theorem hZ.keep{gs:Nat}(h:hZ w base v l)(hg:w.heap.size<=gs)(hx0:ab w w8)(hx:XT gs w8 wx):hZ wx base v l :=
 ⟨aJ (ao h.1 hx0) hx fun k hk e=>by have:=(h.1.lt k hk).2;injection e with e;omega,h.2⟩
theorem kT.keep{gs:Nat}(h:kT base w v ys)(hg:w.heap.size<=gs)(hx0:ab w w8)(hx:XT gs w8 wx):kT base wx v ys :=
 ⟨aJ (ao h.own hx0) hx fun k hk e=>by have:=(h.own.own.lt k hk).2;injection e with e;omega,fun y hy=>⟨(h.el y hy).1.keep hg hx0 hx,(h.el y hy).2.keep hg hx0 hx⟩⟩
end
theorem Oo(i:r6)(c:Int)(m:Nat):j6 i c (m+1)=j6 i c m++[((dG i.pgs c (m:Int)).map Pg.cont).getD 0]:=by unfold j6;rw[xP,yG];rfl
theorem MO(i:r6)(c:Int)(m:Nat):(j6 i c m).length=m:=by unfold j6;simp
theorem Qw{o:Option Pg}{yc yg yt ys yq:Int}{ych:List Int}(h:o.getD ⟨0,0,0,[],⟨0,0⟩⟩=⟨yc,yg,yt,ych,⟨ys,yq⟩⟩):(o.map Pg.cont).getD 0=yt:=by
 cases o with
 |none=>simp only[Option.getD_none]at h;simp only[Option.map_none,Option.getD_none];injection h
 |some y=>simp only[Option.getD_some]at h;rw[h];rfl
noncomputable def Na(s:dl)(i:r6)(d f ld:Int):Int:=if gq s i=true then (if j5 d f ld=true then 0 else 2) else 1
noncomputable def Ni(s:dl)(i:r6)(d f ld:Int):List Np:=if gq s i=true/\j5 d f ld=true then ut s i d f ld else []
def PY(w:World)(er:Int)(l:List Np)(e:Ending)(w':World):Prop:=(∃vr ys,e=.returned (.tuple #[vr,B C er])/\kT w.heap.size w' vr ys/\ys.map Prod.fst=l)/\ab w w'
theorem PI(c st:Int)(A:Option Addr)(n cc:Nat)(W:World):(Instr.field 72 (.agg #[B C c,B C st,D A n cc]) 1).run prog W=.ok (B C st) W:=by kernel_rfl
theorem Od{s:dl}{i:r6}{x:fv}(h:cj s i x=true):(gt s i x).state=1:=by unfold cj at h;exact of_decide_eq_true h
theorem P9{s:dl}{i:r6}{x:fv}(h:cj s i x=false):(gt s i x).state≠1:=by unfold cj at h;exact of_decide_eq_false h
end Go.Proofs.YtpaidaphacoblaaGreatDoor

