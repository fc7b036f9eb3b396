import Derived.BigRegion
import Derived.Test.YtpaidaphacoblaaGreatDoorOrdersC
set_option linter.all false
set_option maxRecDepth 100000
set_option maxHeartbeats 0
namespace Go.Proofs.YtpaidaphacoblaaGreatDoor
open Go.Value renaming int→A,slice→C
open Go.IntKind renaming i64→B
open Go.RowKit _root_.Go.Proofs.Tryz
variable {num:Int} {k:Nat}
def fF(num:Int)(ys:List (je×Value))(bs:List (List (List Int)×Value)):Prop :=
 bs.length=ys.length/\∀(i:Nat) y,ys[i]?=some y->y.1.code=num/\y.1.var=(i:Int)/\fD num (i:Int) y.1.ps=true/\y.1.ps.length<=6/\∃b,bs[i]?=some b/\b.1=ai y.1.ps
theorem fF.nil(num:Int):fF num [] []:=⟨rfl,fun i y h=>by cases h⟩
theorem fF.snoc{ys:List (je×Value)}{bs:List (List (List Int)×Value)}{ps:List av}{u u':Value}(h:fF num ys bs)(hk:ys.length=k)(hv:fD num (k:Int) ps=true)(hl:ps.length<=6) :
  fF num (ys++[(⟨num,k,ps⟩,u)]) (bs++[(ai ps,u')]):=by
 refine⟨by simp[h.1],fun i y hy=>?_⟩;rcases zU i ys.length with hi|hi
 ·rw[yY hi]at hy;obtain⟨h1,h2,h3,h4,b,h5,h6⟩:=h.2 i y hy;exact⟨h1,h2,h3,h4,b,by rw[yY (by rw[h.1];exact hi)];exact h5,h6⟩
 ·rw[yL hi]at hy;have hj:i-ys.length=0:=by have:=(zY.1 hy).1;simp at this;omega
  rw[hj]at hy;simp at hy;subst hy;obtain rfl:i=k:=by omega
  exact⟨rfl,rfl,hv,hl,_,by rw[yL (by rw[h.1];omega),h.1,hj];rfl,rfl⟩
theorem Lk{ps:List av}(h:∀q∈ps,q.max<=12):sm ps<=12*ps.length:=by
 induction ps with
 |nil=>simp[sm]
 |cons a l ih =>
  have:=h a (by simp);have:=ih fun q hq=>h q (by simp[hq]);unfold sm at *
  simp only[wK,List.sum_cons,xQ];omega
theorem Hp{k:Int}{ps:List av}(hn:0<=num/\num<=31)(hk:0<=k/\k<4)(h1:1<=ps.length)(h6:ps.length<=6)(hq:∀q∈ps,lm q=true/\q.max<=12):fD num k ps=true:=by have:=Lk fun q h=>(hq q h).2;unfold fD;simp only[yT,decide_eq_true_eq,xS];exact⟨by omega,fun q h=>(hq q h).1,by omega⟩
theorem fF.wf{ys:List (je×Value)}{bs:List (List (List Int)×Value)}(h:fF num ys bs)(hn:0<=num/\num<=31)(h2:ys.length<=2):CK ys/\FI 2 bs:=by
 refine⟨⟨h2,fun y hy=>?_⟩,by rw[h.1];exact h2,fun b hb=>?_⟩
 ·obtain⟨i,hi⟩:=zH hy;obtain⟨h1,h3,h4,h5,-⟩:=h.2 i y hi;have hv:=mD h4;have:=(zY.1 hi).1;refine⟨by rw[h1];constructor<;>omega,by rw[h3];constructor<;>omega,h5,fun r hr=>JS (xS.1 hv.2.2.2.2.2.2.1 r hr)⟩
 ·obtain⟨i,hi⟩:=zH hb;have hlt:=(zY.1 hi).1;rw[h.1]at hlt;obtain⟨_,_,_,h5,b',h6,h7⟩:=h.2 i _ (zV hlt);rw[hi]at h6;injection h6 with h6;subst h6;rw[h7];have hb:=m7 (ys[i]'hlt).1.ps;exact⟨by omega,fun l hl=>⟨by have:=(hb.2 l hl).1;omega,fun x hx=>by have:=(hb.2 l hl).2 x hx;omega⟩⟩
theorem Ei:∀{ys:List (je×Value)} (h:0<ys.length),(ys.map gD).flatten[1]?=some (A B (ys[0]'h).1.var)
 |[],h=>by simp at h
 |y::t,_=>rfl
def kM(i k:Nat)(xs:List fv):Prop:=(∀x∈xs,0<=x.cand/\x.cand<(i:Int)/\1<=x.cen/\x.cen<=2/\0<=x.var/\x.var<(k:Int))/\xs.Pairwise (fun a b=>a.cand<b.cand)/\xs.length<=i
theorem kM.nil(k:Nat):kM 0 k []:=⟨fun x h=>by simp at h,xE,zX _⟩
theorem kM.skip{i:Nat}{xs:List fv}(h:kM i k xs):kM (i+1) k xs:=⟨fun x hx=>by have:=h.1 x hx;omega,h.2.1,by have:=h.2.2;omega⟩
theorem kM.snoc{i:Nat}{xs:List fv}{cen var:Int}(h:kM i k xs)(h1:1<=cen/\cen<=2)(h2:0<=var/\var<(k:Int)):kM (i+1) k (xs++[⟨i,cen,var⟩]):=by
 refine⟨fun x hx=>?_,xJ.2 ⟨h.2.1,wR _ _,fun a ha b hb=>?_⟩,by have:=h.2.2;simp;omega⟩
 ·rcases zM.1 hx with hx|hx
  ·have:=h.1 x hx;omega
  ·obtain rfl:x=⟨i,cen,var⟩:=by simpa using hx
   simp only;omega
 ·obtain rfl:b=⟨i,cen,var⟩:=by simpa using hb
  have:=h.1 a ha;simp only;omega
theorem kM.wf{xs:List fv}(h:kM 4 k xs)(hk:k<=2):Kv 4 xs:=⟨h.2.2,fun x hx=>by have:=h.1 x hx;omega⟩
theorem KQ{ys:List (je×Value)}{bs:List (List (List Int)×Value)}{xs:List fv}(hn:0<=num/\num<2)(h:fF num ys bs)(hl:ys.length=k)(hk:1<=k/\k<=2)(hx:kM 4 k xs):dU ⟨num,ys.map Prod.fst,bs.map Prod.fst,xs⟩:=by
 refine⟨by simp only;omega,by have:=hx.2.2;simp only[zJ];omega,by simp only[zJ];exact h.1,fun i hi=>?_,fun x hxm=>?_,fun i hi=>?_⟩
 ·simp only[zJ]at hi;have hy:ys[i]?=some ys[i]:=zV hi;obtain⟨h1,h2,h3,h4,b,h5,h6⟩:=h.2 i _ hy;unfold jK;simp only[zP,hy,h5,Option.map_some];have hb:=IL h3 (by have:=(m7 ys[i].1.ps).1;omega);rw[h1,h2,h3,h6,qh hb];simp
 ·have:=hx.1 x hxm;unfold ud;simp only[zJ,decide_eq_true_eq];omega
 ·unfold lW;simp only at hi⊢;have e1:xs[i]?=some xs[i]:=zV (by omega);have e2:xs[i+1]?=some xs[i+1]:=zV hi;rw[e1,e2];simp only[decide_eq_true_eq];exact xX.1 hx.2.1 i (i+1) (by omega) hi (by omega)
def LB(p:Nat)(w wx:World)(G:Nat)(n:Int):Prop:=∃(num:Int) (AP:Option Addr) (nP cP:Nat) (AB:Option Addr) (nB cB:Nat) (AX:Option Addr) (nX cX:Nat) (ys:List (je×Value)) (bs:List (List (List Int)×Value)) (xs:List fv),
 aH p w wx G num (C AP nP cP) (C AB nB cB) (C AX nX cX) (C AP nP cP) (C AB nB cB) (C AX nX cX) ys bs xs/\ma ⟨num,ys.map Prod.fst,bs.map Prod.fst,xs⟩/\(n=0->dU ⟨num,ys.map Prod.fst,bs.map Prod.fst,xs⟩)
theorem dp(p:Nat)(n:Int)(w:World)(h:bz w p)(hn:0<=n)(hn':n<=1000000000) :
  Calls prog 7 #[.pointer (some ⟨p,0,none⟩),.int .i64 n] w (iN p w fun v w'=>∃s,pT w' w.heap.size v s/\ma s/\(n=0->dU s)):=by
 have hlt:=h.lt;obtain⟨iP,hiP,hp0,hp1,hp2⟩:=info_parts Tryz.infoPap;obtain⟨iB,hiB,hb0,hb1,hb2⟩:=info_parts Tryz.infoBk;obtain⟨iX,hiX,hx0,hx1,hx2⟩:=info_parts Tryz.infoXp;have H:=zZ h;clear h;go_enter func7,ntmps7
 go_wp2_with fail;refine (am p 2 _ (H.out.ext ((zE _).alloc _)) (by omega)).mono ?_;rintro e w1 ⟨v1,rfl,⟨num,rfl,hn0,hn1⟩,HT1,HX1⟩;have hs1:w.heap.size<w1.heap.size:=by have:=HX1.size;simp at this;omega
 have HS0:Bx (aH p w (w1.alloc (.cells #[.int .i64 num,C none 0 0,C none 0 0,C none 0 0] 29)) w1.heap.size num (C none 0 0) (C none 0 0) (C none 0 0) (C none 0 0) (C none 0 0) (C none 0 0) [] [] []) :=
  ⟨⟨HT1.ext ((zE _).alloc _),((XT.refl _ _).alloc _).trans (HX1.alloc _),(((Bk.new w _ _).xt HX1 (by omega)).alloc _),Bk.new w1 _ _,hs1,da.nil,fun y hy=>by simp at hy,da.nil,fun y hy=>by simp at hy,da.nil⟩⟩
 clear HT1 HX1;go_wp2_with fail;generalize w1.heap.size=G at *
 go_loopw [6] (fun s6 wr=>∃(k:Nat) (AP AB:Option Addr) (cP cB:Nat) (ys:List (je×Value)) (bs:List (List (List Int)×Value)),s6=.int .i64 k/\k<=2/\Bx (aH p w wr G num (C AP k cP) (C AB k cB) (C none 0 0) (C AP k cP) (C AB k cB) (C none 0 0) ys bs []/\ys.length=k/\fF num ys bs)) (fun i _=>2-(intOf i).toNat)
 case atStart=>exact⟨0,none,none,0,0,[],[],rfl,by omega,⟨⟨HS0.out,rfl,fF.nil _⟩⟩⟩
 case round =>
  obtain⟨k,AP,AB,cP,cB,ys,bs,rfl,hk,HR⟩:=hrel;clear HS0;go_wp2_with fail;refine (az p 1 2 _ HR.out.1.tp (by omega) (by omega) (by omega) (by omega)).mono ?_;rintro e w2 ⟨v2,rfl,⟨r,rfl,hr1,hr2⟩,HT2,HX2⟩;have HS2:=bx (HR.out.1.step hlt HX2 HT2);have HG:Bx (ys.length=k/\fF num ys bs):=⟨HR.out.2⟩
  clear HR HT2 HX2;by_cases hkr:(k:Int)<r
  ·have hk1:k<=1:=by omega
   have g0:=HS2.out.bx.c 0 rfl;go_wp2_with fail;refine (Fm p num k _ HS2.out.tp).mono ?_;rintro e w3 ⟨v3,rfl,⟨pv,ps,rfl,hq,hl1,hl6,hv⟩,HT3,HX3⟩;have hs2:=HS2.out.bx.lt;have HS3:=bx (HS2.out.step hlt HX3 HT3);obtain⟨Aq,cq,rfl⟩:=hq.form;have HQ:Bx (dZ w.heap.size w3 (C Aq ps.length cq) ps):=⟨cd hq (by have:=HS2.out.hG;omega)⟩
   have HV:Bx (∀q∈ps,lm q=true/\q.max<=12):=⟨hv⟩
   clear HT3 HX3 hq hv g0;have hps:fD num (k:Int) ps=true:=Hp ⟨by omega,by omega⟩ ⟨by omega,by omega⟩ hl1 hl6 HV.out;have HPS:Bx (fD num (k:Int) ps=true/\ps.length<=6):=⟨⟨hps,hl6⟩⟩
   obtain⟨w4,hw4⟩:=nm (w3.alloc (.cells #[.int .i64 num,.int .i64 k,C Aq ps.length cq] 64));have hx4:ab w3 w4:=by rw[hw4];exact (zE _).alloc _
   have HS4:=bx (HS3.out.ext hlt hx4);have HB4:Bx (Bk w4 w3.heap.size #[.int .i64 num,.int .i64 k,C Aq ps.length cq] 64):=⟨by rw[hw4];exact Bk.new w3 _ _⟩
   have HQ4:Bx (dZ w.heap.size w4 (C Aq ps.length cq) ps):=⟨ao HQ.out hx4⟩
   have hp4:p<w4.heap.size:=by have:=HS4.out.bx.lt;have:=HS4.out.hG;omega
   have HPL:Bx (∀q,(Value.slice AP k cP).ownBlock=some q->q≠w3.heap.size):=⟨fun q e=>by have:=(HS3.out.oP.own.lt _ e).2;omega⟩
   have HGL:Bx (G<w3.heap.size):=⟨HS3.out.bx.lt⟩
   clear hps hl1 hx4 HS3 HQ;go_wp2_with fail;rw[<-hw4];clear hw4;refine (C8 num k _ ps _ (p:=p) hp4 (HQ4.out.isQ hlt (fun q hq=>JS (HV.out q hq).1))).mono ?_;rintro e w5 ⟨v',pgs,er,rfl,ho,hx5,hm1,hm2⟩;obtain⟨rfl,rfl⟩:=(hm2 HPS.out.1).2 (by have:=(m7 ps).1;omega);obtain⟨A',c',rfl⟩:=ho.form;obtain⟨w6,hw6⟩:=nm (w5.alloc (.cells #[C A' (ai ps).length c'] 61));have hx6:ab w4 w6:=by rw[hw6];exact hx5.alloc _
   have HS6:=bx (HS4.out.ext hlt hx6);have HB6:Bx (Bk w6 w3.heap.size #[.int .i64 num,.int .i64 k,C Aq ps.length cq] 64/\Bk w6 w5.heap.size #[C A' (ai ps).length c'] 61):=⟨HB4.out.ext hx6,by rw[hw6];exact Bk.new w5 _ _⟩
   have HO6:Bx (dZ w.heap.size w6 (C Aq ps.length cq) ps/\dn w.heap.size w6 (C A' (ai ps).length c') (ai ps)):=⟨ao HQ4.out hx6,by rw[hw6];exact (ho.re (by have:=HS4.out.bx.lt;have:=HS4.out.hG;omega)).ext ((zE _).alloc _)⟩
   have HPB:Bx ((Value.slice AP k cP).ownBlock≠some w3.heap.size/\(Value.slice AB k cB).ownBlock≠some w5.heap.size):=⟨⟨fun e=>HPL.out _ e rfl,fun e=>by have:=(HS4.out.oB.own.lt _ e).2;have:=hx5.size;omega⟩⟩
   have HPG:Bx (w3.heap.size≠G/\w5.heap.size≠G):=⟨⟨by have:=HGL.out;omega,by have:=HGL.out;have:=HS4.out.bx.lt;have:=hx5.size;omega⟩⟩
   clear hm1 hm2 ho hx5 hx6 HS4 HB4 HQ4;go_upto_region 7 with (fail)
   rw[<-hw6];clear hw6;obtain⟨B7,hB7⟩:=nm w3.heap.size;obtain⟨B8,hB8⟩:=nm w5.heap.size;rw[<-hB7,<-hB8]at HB6 HPB HPG;rw[<-hB7,<-hB8];clear hB7 hB8;have t6:w6.drew.cell? ⟨G,2,none⟩=some (C AB k cB)/\w6.drew.cell? ⟨B7,0,none⟩=some (.int .i64 num)/\w6.drew.cell? ⟨B7,1,none⟩=some (.int .i64 k)/\w6.drew.cell? ⟨B7,2,none⟩=some (C Aq ps.length cq)/\w6.drew.cell? ⟨B8,0,none⟩=some (C A' (ai ps).length c'):=⟨HS6.out.bx.c 2 rfl,HB6.out.1.c 0 rfl,HB6.out.1.c 1 rfl,HB6.out.1.c 2 rfl,HB6.out.2.c 0 rfl⟩
   have u6:w6.drew.cell? ⟨G,1,none⟩=some (C AP k cP):=HS6.out.bx.c 1 rfl;refine Ca (xw 11 (fun w'=>w'.cell? ⟨G,1,none⟩=some (C AP k cP)) 13 (fun w'=>w'.cell? ⟨G,2,none⟩=some (C AB k cB)/\w'.cell? ⟨B7,0,none⟩=some (.int .i64 num)/\w'.cell? ⟨B7,1,none⟩=some (.int .i64 k)/\w'.cell? ⟨B7,2,none⟩=some (C Aq ps.length cq)/\w'.cell? ⟨B8,0,none⟩=some (C A' (ai ps).length c'))) (by kernel_rfl) ?_;refine bT _ 13 0 (some 30) (v:=?kv1) rfl rfl (by kernel_rfl) (by kernel_rfl) (by kernel_rfl) (by kernel_rfl) (by kernel_rfl) (fun _ _ _ h=>h) (by rfl) (fun _ _ h hs=>hs.2 h) (xw.put (by decide) (by decide)) ?ky1 (⟨fun _=>u6,fun _=>t6⟩) ?kr1;case ky1=>((intro wk hk);(try dsimp only at hk);go_simp;try with_reducible rfl)
   try simp only[kA]
   refine bT _ 13 5 (some 35) (v:=?kv2) rfl rfl (by kernel_rfl) (by kernel_rfl) (by kernel_rfl) (by kernel_rfl) (by kernel_rfl) (fun _ _ _ h=>h) (by rfl) (fun _ _ h hs=>hs.2 h) (xw.put (by decide) (by decide)) ?ky2 (⟨fun _=>u6,fun _=>t6⟩) ?kr2;case ky2=>((intro wk hk);(try dsimp only at hk);go_simp;try with_reducible rfl)
   try simp only[kA]
   refine bT _ 13 2 (some 32) (v:=?kv3) rfl rfl (by kernel_rfl) (by kernel_rfl) (by kernel_rfl) (by kernel_rfl) (by kernel_rfl) (fun _ _ _ h=>h) (by rfl) (fun _ _ h hs=>hs.2 h) (xw.put (by decide) (by decide)) ?ky3 (⟨fun _=>u6,fun _=>t6⟩) ?kr3;case ky3=>((intro wk hk);(try dsimp only at hk);go_simp;try with_reducible rfl)
   try simp only[kA]
   refine bT _ 13 6 (some 36) (v:=?kv4) rfl rfl (by kernel_rfl) (by kernel_rfl) (by kernel_rfl) (by kernel_rfl) (by kernel_rfl) (fun _ _ _ h=>h) (by rfl) (fun _ _ h hs=>hs.2 h) (xw.put (by decide) (by decide)) ?ky4 (⟨fun _=>u6,fun _=>t6⟩) ?kr4;case ky4=>((intro wk hk);(try dsimp only at hk);go_simp;try with_reducible rfl)
   try simp only[kA]
   refine bT _ 13 7 (some 37) (v:=?kv5) rfl rfl (by kernel_rfl) (by kernel_rfl) (by kernel_rfl) (by kernel_rfl) (by kernel_rfl) (fun _ _ _ h=>h) (by rfl) (fun _ _ h hs=>hs.2 h) (xw.put (by decide) (by decide)) ?ky5 (⟨fun _=>u6,fun _=>t6⟩) ?kr5;case ky5=>((intro wk hk);(try dsimp only at hk);go_simp;try with_reducible rfl)
   try simp only[kA]
   refine bT _ 11 1 (some 31) (v:=?kv6) rfl rfl (by kernel_rfl) (by kernel_rfl) (by kernel_rfl) (by kernel_rfl) (by kernel_rfl) (fun _ _ _ h=>h) (by rfl) (fun _ _ h hs=>hs.1 h) (xw.put (by decide) (by decide)) ?ky6 (⟨fun _=>u6,fun _=>t6⟩) ?kr6;case ky6=>((intro wk hk);(try dsimp only at hk);go_simp;try with_reducible rfl)
   try simp only[kA]
   refine qD 3 8 (by kernel_rfl) rfl rfl (fun K hK=>?_) (fun K hK=>?_)
   ·go_simp;obtain⟨x1,hx1⟩:=nm ((w6.alloc (.cells #[.int .i64 num,.int .i64 k,C Aq ps.length cq] 64)).drew);rw[<-hx1];have ex1:ab w6 x1:=by rw[hx1];exact ((zE _).alloc _).drew
    have L1:Bx (Bk x1 w6.heap.size #[.int .i64 num,.int .i64 k,C Aq ps.length cq] 64):=⟨by rw[hx1];exact (Bk.new w6 _ _).ext ((zE _).drew)⟩
    clear hx1;have HSa1:=bx (HS6.out.ext hlt ex1);have HBa1:Bx (Bk x1 B7 #[.int .i64 num,.int .i64 k,C Aq ps.length cq] 64/\Bk x1 B8 #[C A' (ai ps).length c'] 61):=⟨⟨HB6.out.1.ext ex1,HB6.out.2.ext ex1⟩⟩
    have HOa1:Bx (dZ w.heap.size x1 (C Aq ps.length cq) ps/\dn w.heap.size x1 (C A' (ai ps).length c') (ai ps)):=⟨⟨ao HO6.out.1 ex1,HO6.out.2.ext ex1⟩⟩
    have T1:x1.cell? ⟨G,2,none⟩=some (C AB k cB)/\x1.cell? ⟨B7,0,none⟩=some (.int .i64 num)/\x1.cell? ⟨B7,1,none⟩=some (.int .i64 k)/\x1.cell? ⟨B7,2,none⟩=some (C Aq ps.length cq)/\x1.cell? ⟨B8,0,none⟩=some (C A' (ai ps).length c'):=⟨HSa1.out.bx.c 2 rfl,HBa1.out.1.c 0 rfl,HBa1.out.1.c 1 rfl,HBa1.out.1.c 2 rfl,HBa1.out.2.c 0 rfl⟩
    have U1:=HSa1.out.bx.c 1 rfl;refine hK.out _ _ (⟨fun _=>U1,fun _=>T1⟩) ?_;clear hK K;try simp only[kA]
    refine qD 4 8 (by kernel_rfl) rfl rfl (fun K hK=>?_) (fun K hK=>?_)
    ·refine step_append_lies _ (by rfl) _ _ _ (by rfl) w.heap.size 64 iP _ 3 40 underlying25 hiP hp0 hp1 hp2 rfl (by omega) (C AP k cP) k (ys.map gD).flatten (by rfl) (by have:=HSa1.out.oP.own;rw[HG.out.1]at this;exact this) ⟨w6.heap.size,0,none⟩ 1 1 (gD ((⟨num,k,ps⟩:je),Value.slice Aq ps.length cq)) (by rfl) (by rfl) (World.news_of_block L1.out) (by simp[Value.oneCell',gD]) (by omega) (by unfold maxLen;omega) (by omega) (by have:=HSa1.out.bx.lt;have:=HSa1.out.hG;omega) x1.heap.size rfl ?_;intro g2 c2 x2 hown2 hgrow2 _ hlt2;have HSa2:Bx (aH p w x2 G num (C AP k cP) (C AB k cB) (C none 0 0) (C (some ⟨g2,0,none⟩) (k+1) c2) (C AB k cB) (C none 0 0) (ys++[((⟨num,k,ps⟩:je),Value.slice Aq ps.length cq)]) bs []):=⟨HSa1.out.growP (y:=((⟨num,k,ps⟩:je),Value.slice Aq ps.length cq)) hlt hgrow2 (by rw[HG.out.1];exact hown2) HOa1.out.1⟩
     have HBa2:Bx (Bk x2 B7 #[.int .i64 num,.int .i64 k,C Aq ps.length cq] 64/\Bk x2 B8 #[C A' (ai ps).length c'] 61):=⟨⟨HBa1.out.1.grown hgrow2 HPB.out.1,eo HBa1.out.2 HSa1.out.oP.own (by decide) hgrow2⟩⟩
     have HOa2:Bx (dZ w.heap.size x2 (C Aq ps.length cq) ps/\dn w.heap.size x2 (C A' (ai ps).length c') (ai ps)):=⟨⟨cO HOa1.out.1 HSa1.out.oP.own (by decide) hgrow2,HOa1.out.2.apart HSa1.out.oP.own (by decide) (by decide) hgrow2⟩⟩
     clear hown2 hgrow2;have T2:x2.cell? ⟨G,2,none⟩=some (C AB k cB)/\x2.cell? ⟨B7,0,none⟩=some (.int .i64 num)/\x2.cell? ⟨B7,1,none⟩=some (.int .i64 k)/\x2.cell? ⟨B7,2,none⟩=some (C Aq ps.length cq)/\x2.cell? ⟨B8,0,none⟩=some (C A' (ai ps).length c'):=⟨HSa2.out.bx.c 2 rfl,HBa2.out.1.c 0 rfl,HBa2.out.1.c 1 rfl,HBa2.out.1.c 2 rfl,HBa2.out.2.c 0 rfl⟩
     have U2:=HSa2.out.bx.c 1 rfl;refine hK.out _ _ (⟨fun _=>U2,fun _=>T2⟩) ?_;clear hK K;try simp only[kA]
     refine bT _ 13 10 (some 40) (v:=?kv7) rfl rfl (by kernel_rfl) (by kernel_rfl) (by kernel_rfl) (by kernel_rfl) (by kernel_rfl) (fun _ _ _ h=>h) (by rfl) (fun _ _ h hs=>hs.2 h) (xw.put (by decide) (by decide)) ?ky7 (⟨fun _=>U2,fun _=>T2⟩) ?kr7;case ky7=>((intro wk hk);(try dsimp only at hk);go_simp;try with_reducible rfl)
     try simp only[kA]
     refine cn 8 (by kernel_rfl) rfl (fun K hK=>?_);go_simp;obtain⟨x3,hx3⟩:=nm ((x2.alloc (.cells #[C A' (ai ps).length c'] 61)));rw[<-hx3];have ex3:ab x2 x3:=by rw[hx3];exact (zE _).alloc _
     have L3:Bx (Bk x3 x2.heap.size #[C A' (ai ps).length c'] 61):=⟨by rw[hx3];exact Bk.new x2 _ _⟩
     clear hx3;have HSa3:=bx (HSa2.out.ext hlt ex3);have HBa3:Bx (Bk x3 B7 #[.int .i64 num,.int .i64 k,C Aq ps.length cq] 64/\Bk x3 B8 #[C A' (ai ps).length c'] 61):=⟨⟨HBa2.out.1.ext ex3,HBa2.out.2.ext ex3⟩⟩
     have HOa3:Bx (dZ w.heap.size x3 (C Aq ps.length cq) ps/\dn w.heap.size x3 (C A' (ai ps).length c') (ai ps)):=⟨⟨ao HOa2.out.1 ex3,HOa2.out.2.ext ex3⟩⟩
     have T3:x3.cell? ⟨G,2,none⟩=some (C AB k cB)/\x3.cell? ⟨B7,0,none⟩=some (.int .i64 num)/\x3.cell? ⟨B7,1,none⟩=some (.int .i64 k)/\x3.cell? ⟨B7,2,none⟩=some (C Aq ps.length cq)/\x3.cell? ⟨B8,0,none⟩=some (C A' (ai ps).length c'):=⟨HSa3.out.bx.c 2 rfl,HBa3.out.1.c 0 rfl,HBa3.out.1.c 1 rfl,HBa3.out.1.c 2 rfl,HBa3.out.2.c 0 rfl⟩
     have U3:=HSa3.out.bx.c 1 rfl;refine hK.out _ _ (⟨fun _=>U3,fun _=>T3⟩) ?_;clear hK K;try simp only[kA]
     refine cn 9 (by kernel_rfl) rfl (fun K hK=>?_);refine step_append_lies _ (by rfl) _ _ _ (by rfl) w.heap.size 61 iB _ 1 24 underlying26 hiB hb0 hb1 hb2 rfl (by omega) (C AB k cB) k (bs.map CW).flatten (by rfl) (by have:=HSa3.out.oB.own;rw[HG.out.2.1,HG.out.1]at this;exact this) ⟨x2.heap.size,0,none⟩ 1 1 (CW (ai ps,Value.slice A' (ai ps).length c')) (by rfl) (by rfl) (World.news_of_block L3.out) (by simp[Value.oneCell',CW]) (by omega) (by unfold maxLen;omega) (by omega) (by have:=HSa3.out.bx.lt;have:=HSa3.out.hG;omega) x3.heap.size rfl ?_;intro g4 c4 x4 hown4 hgrow4 _ hlt4;have HSa4:Bx (aH p w x4 G num (C AP k cP) (C AB k cB) (C none 0 0) (C (some ⟨g2,0,none⟩) (k+1) c2) (C (some ⟨g4,0,none⟩) (k+1) c4) (C none 0 0) (ys++[((⟨num,k,ps⟩:je),Value.slice Aq ps.length cq)]) (bs++[(ai ps,Value.slice A' (ai ps).length c')]) []):=⟨HSa3.out.growB (y:=(ai ps,Value.slice A' (ai ps).length c')) hlt hgrow4 (by rw[HG.out.2.1,HG.out.1];exact hown4) HOa3.out.2⟩
     have HBa4:Bx (Bk x4 B7 #[.int .i64 num,.int .i64 k,C Aq ps.length cq] 64/\Bk x4 B8 #[C A' (ai ps).length c'] 61):=⟨⟨eo HBa3.out.1 HSa3.out.oB.own (by decide) hgrow4,HBa3.out.2.grown hgrow4 HPB.out.2⟩⟩
     clear hown4 hgrow4;have T4:x4.cell? ⟨G,2,none⟩=some (C AB k cB)/\x4.cell? ⟨B7,0,none⟩=some (.int .i64 num)/\x4.cell? ⟨B7,1,none⟩=some (.int .i64 k)/\x4.cell? ⟨B7,2,none⟩=some (C Aq ps.length cq)/\x4.cell? ⟨B8,0,none⟩=some (C A' (ai ps).length c'):=⟨HSa4.out.bx.c 2 rfl,HBa4.out.1.c 0 rfl,HBa4.out.1.c 1 rfl,HBa4.out.1.c 2 rfl,HBa4.out.2.c 0 rfl⟩
     have U4:=HSa4.out.bx.c 1 rfl;refine hK.out _ _ (⟨fun _=>U4,fun _=>T4⟩) ?_;clear hK K;try simp only[kA]
     have f1:=HSa4.out.bx.froz 1;refine cn 11 (by kernel_rfl) rfl (fun K hK=>?_);go_simp;have HSs:Bx (aH p w (x4.setCell ⟨G,1,none⟩ (C (some ⟨g2,0,none⟩) (k+1) c2)) G num (C (some ⟨g2,0,none⟩) (k+1) c2) (C AB k cB) (C none 0 0) (C (some ⟨g2,0,none⟩) (k+1) c2) (C (some ⟨g4,0,none⟩) (k+1) c4) (C none 0 0) (ys++[((⟨num,k,ps⟩:je),Value.slice Aq ps.length cq)]) (bs++[(ai ps,Value.slice A' (ai ps).length c')]) []):=⟨HSa4.out.set hlt rfl⟩
     have HBs:Bx (Bk (x4.setCell ⟨G,1,none⟩ (C (some ⟨g2,0,none⟩) (k+1) c2)) B7 #[.int .i64 num,.int .i64 k,C Aq ps.length cq] 64/\Bk (x4.setCell ⟨G,1,none⟩ (C (some ⟨g2,0,none⟩) (k+1) c2)) B8 #[C A' (ai ps).length c'] 61):=⟨⟨HBa4.out.1.far HPG.out.1 _,HBa4.out.2.far HPG.out.2 _⟩⟩
     obtain⟨y1,hy1⟩:=nm (x4.setCell ⟨G,1,none⟩ (C (some ⟨g2,0,none⟩) (k+1) c2));rw[<-hy1]at HSs HBs⊢;clear hy1;have Ts:y1.cell? ⟨G,2,none⟩=some (C AB k cB)/\y1.cell? ⟨B7,0,none⟩=some (.int .i64 num)/\y1.cell? ⟨B7,1,none⟩=some (.int .i64 k)/\y1.cell? ⟨B7,2,none⟩=some (C Aq ps.length cq)/\y1.cell? ⟨B8,0,none⟩=some (C A' (ai ps).length c'):=⟨HSs.out.bx.c 2 rfl,HBs.out.1.c 0 rfl,HBs.out.1.c 1 rfl,HBs.out.1.c 2 rfl,HBs.out.2.c 0 rfl⟩
     refine hK.out _ _ (⟨fh (by kernel_rfl),fun _=>Ts⟩) ?_;clear hK K;try simp only[kA]
     refine bT _ 13 12 (some 41) (v:=?kv8) rfl rfl (by kernel_rfl) (by kernel_rfl) (by kernel_rfl) (by kernel_rfl) (by kernel_rfl) (fun _ _ _ h=>h) (by rfl) (fun _ _ h hs=>hs.2 h) (xw.put (by decide) (by decide)) ?ky8 (⟨fh (by kernel_rfl),fun _=>Ts⟩) ?kr8;case ky8=>((intro wk hk);(try dsimp only at hk);go_simp;try with_reducible rfl)
     try simp only[kA]
     have f3:=HSs.out.bx.froz 2;have d3:=Ts.1;refine cn 13 (by kernel_rfl) rfl (fun K hK=>?_);go_simp;refine hK.out _ _ (⟨fh (by kernel_rfl),fh (by kernel_rfl)⟩) ?_;clear hK K;refine kN (by kernel_rfl) ?_ _;have HSe:Bx (aH p w (y1.setCell ⟨G,2,none⟩ (C (some ⟨g4,0,none⟩) (k+1) c4)) G num (C (some ⟨g2,0,none⟩) (k+1) c2) (C (some ⟨g4,0,none⟩) (k+1) c4) (C none 0 0) (C (some ⟨g2,0,none⟩) (k+1) c2) (C (some ⟨g4,0,none⟩) (k+1) c4) (C none 0 0) (ys++[((⟨num,k,ps⟩:je),Value.slice Aq ps.length cq)]) (bs++[(ai ps,Value.slice A' (ai ps).length c')]) []):=⟨HSs.out.set hlt rfl⟩
     go_wp2_with fail;go_roundw
     case rel=>exact⟨k+1,_,_,_,_,_,_,by go_num,by omega,⟨⟨HSe.out,by simp[HG.out.1],fF.snoc HG.out.2 HG.out.1 HPS.out.1 HPS.out.2⟩⟩⟩
     case measure=>simp[intOf];omega
    ·go_simp;obtain⟨x2,hx2⟩:=nm ((x1.alloc (.cells #[C A' (ai ps).length c'] 61)));rw[<-hx2];have ex2:ab x1 x2:=by rw[hx2];exact (zE _).alloc _
     have L2:Bx (Bk x2 x1.heap.size #[C A' (ai ps).length c'] 61):=⟨by rw[hx2];exact Bk.new x1 _ _⟩
     clear hx2;have HSa2:=bx (HSa1.out.ext hlt ex2);have HBa2:Bx (Bk x2 B7 #[.int .i64 num,.int .i64 k,C Aq ps.length cq] 64/\Bk x2 B8 #[C A' (ai ps).length c'] 61):=⟨⟨HBa1.out.1.ext ex2,HBa1.out.2.ext ex2⟩⟩
     have HOa2:Bx (dZ w.heap.size x2 (C Aq ps.length cq) ps/\dn w.heap.size x2 (C A' (ai ps).length c') (ai ps)):=⟨⟨ao HOa1.out.1 ex2,HOa1.out.2.ext ex2⟩⟩
     have M2:=bx (L1.out.ext ex2);have T2:x2.cell? ⟨G,2,none⟩=some (C AB k cB)/\x2.cell? ⟨B7,0,none⟩=some (.int .i64 num)/\x2.cell? ⟨B7,1,none⟩=some (.int .i64 k)/\x2.cell? ⟨B7,2,none⟩=some (C Aq ps.length cq)/\x2.cell? ⟨B8,0,none⟩=some (C A' (ai ps).length c'):=⟨HSa2.out.bx.c 2 rfl,HBa2.out.1.c 0 rfl,HBa2.out.1.c 1 rfl,HBa2.out.1.c 2 rfl,HBa2.out.2.c 0 rfl⟩
     have U2:=HSa2.out.bx.c 1 rfl;refine hK.out _ _ (⟨fun _=>U2,fun _=>T2⟩) ?_;clear hK K;try simp only[kA]
     refine cn 4 (by kernel_rfl) rfl (fun K hK=>?_);refine step_append_lies _ (by rfl) _ _ _ (by rfl) w.heap.size 64 iP _ 3 40 underlying25 hiP hp0 hp1 hp2 rfl (by omega) (C AP k cP) k (ys.map gD).flatten (by rfl) (by have:=HSa2.out.oP.own;rw[HG.out.1]at this;exact this) ⟨w6.heap.size,0,none⟩ 1 1 (gD ((⟨num,k,ps⟩:je),Value.slice Aq ps.length cq)) (by rfl) (by rfl) (World.news_of_block M2.out) (by simp[Value.oneCell',gD]) (by omega) (by unfold maxLen;omega) (by omega) (by have:=HSa2.out.bx.lt;have:=HSa2.out.hG;omega) x2.heap.size rfl ?_;intro g3 c3 x3 hown3 hgrow3 _ hlt3;have HSa3:Bx (aH p w x3 G num (C AP k cP) (C AB k cB) (C none 0 0) (C (some ⟨g3,0,none⟩) (k+1) c3) (C AB k cB) (C none 0 0) (ys++[((⟨num,k,ps⟩:je),Value.slice Aq ps.length cq)]) bs []):=⟨HSa2.out.growP (y:=((⟨num,k,ps⟩:je),Value.slice Aq ps.length cq)) hlt hgrow3 (by rw[HG.out.1];exact hown3) HOa2.out.1⟩
     have HBa3:Bx (Bk x3 B7 #[.int .i64 num,.int .i64 k,C Aq ps.length cq] 64/\Bk x3 B8 #[C A' (ai ps).length c'] 61):=⟨⟨HBa2.out.1.grown hgrow3 HPB.out.1,eo HBa2.out.2 HSa2.out.oP.own (by decide) hgrow3⟩⟩
     have HOa3:Bx (dZ w.heap.size x3 (C Aq ps.length cq) ps/\dn w.heap.size x3 (C A' (ai ps).length c') (ai ps)):=⟨⟨cO HOa2.out.1 HSa2.out.oP.own (by decide) hgrow3,HOa2.out.2.apart HSa2.out.oP.own (by decide) (by decide) hgrow3⟩⟩
     have M3:Bx (Bk x3 x1.heap.size #[C A' (ai ps).length c'] 61):=⟨eo L2.out HSa2.out.oP.own (by decide) hgrow3⟩
     clear hown3 hgrow3;have T3:x3.cell? ⟨G,2,none⟩=some (C AB k cB)/\x3.cell? ⟨B7,0,none⟩=some (.int .i64 num)/\x3.cell? ⟨B7,1,none⟩=some (.int .i64 k)/\x3.cell? ⟨B7,2,none⟩=some (C Aq ps.length cq)/\x3.cell? ⟨B8,0,none⟩=some (C A' (ai ps).length c'):=⟨HSa3.out.bx.c 2 rfl,HBa3.out.1.c 0 rfl,HBa3.out.1.c 1 rfl,HBa3.out.1.c 2 rfl,HBa3.out.2.c 0 rfl⟩
     have U3:=HSa3.out.bx.c 1 rfl;refine hK.out _ _ (⟨fun _=>U3,fun _=>T3⟩) ?_;clear hK K;try simp only[kA]
     refine bT _ 13 10 (some 40) (v:=?kv9) rfl rfl (by kernel_rfl) (by kernel_rfl) (by kernel_rfl) (by kernel_rfl) (by kernel_rfl) (fun _ _ _ h=>h) (by rfl) (fun _ _ h hs=>hs.2 h) (xw.put (by decide) (by decide)) ?ky9 (⟨fun _=>U3,fun _=>T3⟩) ?kr9;case ky9=>((intro wk hk);(try dsimp only at hk);go_simp;try with_reducible rfl)
     try simp only[kA]
     refine cn 9 (by kernel_rfl) rfl (fun K hK=>?_);refine step_append_lies _ (by rfl) _ _ _ (by rfl) w.heap.size 61 iB _ 1 24 underlying26 hiB hb0 hb1 hb2 rfl (by omega) (C AB k cB) k (bs.map CW).flatten (by rfl) (by have:=HSa3.out.oB.own;rw[HG.out.2.1,HG.out.1]at this;exact this) ⟨x1.heap.size,0,none⟩ 1 1 (CW (ai ps,Value.slice A' (ai ps).length c')) (by rfl) (by rfl) (World.news_of_block M3.out) (by simp[Value.oneCell',CW]) (by omega) (by unfold maxLen;omega) (by omega) (by have:=HSa3.out.bx.lt;have:=HSa3.out.hG;omega) x3.heap.size rfl ?_;intro g4 c4 x4 hown4 hgrow4 _ hlt4;have HSa4:Bx (aH p w x4 G num (C AP k cP) (C AB k cB) (C none 0 0) (C (some ⟨g3,0,none⟩) (k+1) c3) (C (some ⟨g4,0,none⟩) (k+1) c4) (C none 0 0) (ys++[((⟨num,k,ps⟩:je),Value.slice Aq ps.length cq)]) (bs++[(ai ps,Value.slice A' (ai ps).length c')]) []):=⟨HSa3.out.growB (y:=(ai ps,Value.slice A' (ai ps).length c')) hlt hgrow4 (by rw[HG.out.2.1,HG.out.1];exact hown4) HOa3.out.2⟩
     have HBa4:Bx (Bk x4 B7 #[.int .i64 num,.int .i64 k,C Aq ps.length cq] 64/\Bk x4 B8 #[C A' (ai ps).length c'] 61):=⟨⟨eo HBa3.out.1 HSa3.out.oB.own (by decide) hgrow4,HBa3.out.2.grown hgrow4 HPB.out.2⟩⟩
     clear hown4 hgrow4;have T4:x4.cell? ⟨G,2,none⟩=some (C AB k cB)/\x4.cell? ⟨B7,0,none⟩=some (.int .i64 num)/\x4.cell? ⟨B7,1,none⟩=some (.int .i64 k)/\x4.cell? ⟨B7,2,none⟩=some (C Aq ps.length cq)/\x4.cell? ⟨B8,0,none⟩=some (C A' (ai ps).length c'):=⟨HSa4.out.bx.c 2 rfl,HBa4.out.1.c 0 rfl,HBa4.out.1.c 1 rfl,HBa4.out.1.c 2 rfl,HBa4.out.2.c 0 rfl⟩
     have U4:=HSa4.out.bx.c 1 rfl;refine hK.out _ _ (⟨fun _=>U4,fun _=>T4⟩) ?_;clear hK K;try simp only[kA]
     have f1:=HSa4.out.bx.froz 1;refine cn 11 (by kernel_rfl) rfl (fun K hK=>?_);go_simp;have HSs:Bx (aH p w (x4.setCell ⟨G,1,none⟩ (C (some ⟨g3,0,none⟩) (k+1) c3)) G num (C (some ⟨g3,0,none⟩) (k+1) c3) (C AB k cB) (C none 0 0) (C (some ⟨g3,0,none⟩) (k+1) c3) (C (some ⟨g4,0,none⟩) (k+1) c4) (C none 0 0) (ys++[((⟨num,k,ps⟩:je),Value.slice Aq ps.length cq)]) (bs++[(ai ps,Value.slice A' (ai ps).length c')]) []):=⟨HSa4.out.set hlt rfl⟩
     have HBs:Bx (Bk (x4.setCell ⟨G,1,none⟩ (C (some ⟨g3,0,none⟩) (k+1) c3)) B7 #[.int .i64 num,.int .i64 k,C Aq ps.length cq] 64/\Bk (x4.setCell ⟨G,1,none⟩ (C (some ⟨g3,0,none⟩) (k+1) c3)) B8 #[C A' (ai ps).length c'] 61):=⟨⟨HBa4.out.1.far HPG.out.1 _,HBa4.out.2.far HPG.out.2 _⟩⟩
     obtain⟨y1,hy1⟩:=nm (x4.setCell ⟨G,1,none⟩ (C (some ⟨g3,0,none⟩) (k+1) c3));rw[<-hy1]at HSs HBs⊢;clear hy1;have Ts:y1.cell? ⟨G,2,none⟩=some (C AB k cB)/\y1.cell? ⟨B7,0,none⟩=some (.int .i64 num)/\y1.cell? ⟨B7,1,none⟩=some (.int .i64 k)/\y1.cell? ⟨B7,2,none⟩=some (C Aq ps.length cq)/\y1.cell? ⟨B8,0,none⟩=some (C A' (ai ps).length c'):=⟨HSs.out.bx.c 2 rfl,HBs.out.1.c 0 rfl,HBs.out.1.c 1 rfl,HBs.out.1.c 2 rfl,HBs.out.2.c 0 rfl⟩
     refine hK.out _ _ (⟨fh (by kernel_rfl),fun _=>Ts⟩) ?_;clear hK K;try simp only[kA]
     refine bT _ 13 12 (some 41) (v:=?kv10) rfl rfl (by kernel_rfl) (by kernel_rfl) (by kernel_rfl) (by kernel_rfl) (by kernel_rfl) (fun _ _ _ h=>h) (by rfl) (fun _ _ h hs=>hs.2 h) (xw.put (by decide) (by decide)) ?ky10 (⟨fh (by kernel_rfl),fun _=>Ts⟩) ?kr10;case ky10=>((intro wk hk);(try dsimp only at hk);go_simp;try with_reducible rfl)
     try simp only[kA]
     have f3:=HSs.out.bx.froz 2;have d3:=Ts.1;refine cn 13 (by kernel_rfl) rfl (fun K hK=>?_);go_simp;refine hK.out _ _ (⟨fh (by kernel_rfl),fh (by kernel_rfl)⟩) ?_;clear hK K;refine kN (by kernel_rfl) ?_ _;have HSe:Bx (aH p w (y1.setCell ⟨G,2,none⟩ (C (some ⟨g4,0,none⟩) (k+1) c4)) G num (C (some ⟨g3,0,none⟩) (k+1) c3) (C (some ⟨g4,0,none⟩) (k+1) c4) (C none 0 0) (C (some ⟨g3,0,none⟩) (k+1) c3) (C (some ⟨g4,0,none⟩) (k+1) c4) (C none 0 0) (ys++[((⟨num,k,ps⟩:je),Value.slice Aq ps.length cq)]) (bs++[(ai ps,Value.slice A' (ai ps).length c')]) []):=⟨HSs.out.set hlt rfl⟩
     go_wp2_with fail;go_roundw
     case rel=>exact⟨k+1,_,_,_,_,_,_,by go_num,by omega,⟨⟨HSe.out,by simp[HG.out.1],fF.snoc HG.out.2 HG.out.1 HPS.out.1 HPS.out.2⟩⟩⟩
     case measure=>simp[intOf];omega
   ·go_simp;obtain⟨x1,hx1⟩:=nm ((w6.alloc (.cells #[C A' (ai ps).length c'] 61)).drew);rw[<-hx1];have ex1:ab w6 x1:=by rw[hx1];exact ((zE _).alloc _).drew
    have L1:Bx (Bk x1 w6.heap.size #[C A' (ai ps).length c'] 61):=⟨by rw[hx1];exact (Bk.new w6 _ _).ext ((zE _).drew)⟩
    clear hx1;have HSa1:=bx (HS6.out.ext hlt ex1);have HBa1:Bx (Bk x1 B7 #[.int .i64 num,.int .i64 k,C Aq ps.length cq] 64/\Bk x1 B8 #[C A' (ai ps).length c'] 61):=⟨⟨HB6.out.1.ext ex1,HB6.out.2.ext ex1⟩⟩
    have HOa1:Bx (dZ w.heap.size x1 (C Aq ps.length cq) ps/\dn w.heap.size x1 (C A' (ai ps).length c') (ai ps)):=⟨⟨ao HO6.out.1 ex1,HO6.out.2.ext ex1⟩⟩
    have T1:x1.cell? ⟨G,2,none⟩=some (C AB k cB)/\x1.cell? ⟨B7,0,none⟩=some (.int .i64 num)/\x1.cell? ⟨B7,1,none⟩=some (.int .i64 k)/\x1.cell? ⟨B7,2,none⟩=some (C Aq ps.length cq)/\x1.cell? ⟨B8,0,none⟩=some (C A' (ai ps).length c'):=⟨HSa1.out.bx.c 2 rfl,HBa1.out.1.c 0 rfl,HBa1.out.1.c 1 rfl,HBa1.out.1.c 2 rfl,HBa1.out.2.c 0 rfl⟩
    have U1:=HSa1.out.bx.c 1 rfl;refine hK.out _ _ (⟨fun _=>U1,fun _=>T1⟩) ?_;clear hK K;try simp only[kA]
    refine cn 3 (by kernel_rfl) rfl (fun K hK=>?_);go_simp;obtain⟨x2,hx2⟩:=nm ((x1.alloc (.cells #[.int .i64 num,.int .i64 k,C Aq ps.length cq] 64)));rw[<-hx2];have ex2:ab x1 x2:=by rw[hx2];exact (zE _).alloc _
    have L2:Bx (Bk x2 x1.heap.size #[.int .i64 num,.int .i64 k,C Aq ps.length cq] 64):=⟨by rw[hx2];exact Bk.new x1 _ _⟩
    clear hx2;have HSa2:=bx (HSa1.out.ext hlt ex2);have HBa2:Bx (Bk x2 B7 #[.int .i64 num,.int .i64 k,C Aq ps.length cq] 64/\Bk x2 B8 #[C A' (ai ps).length c'] 61):=⟨⟨HBa1.out.1.ext ex2,HBa1.out.2.ext ex2⟩⟩
    have HOa2:Bx (dZ w.heap.size x2 (C Aq ps.length cq) ps/\dn w.heap.size x2 (C A' (ai ps).length c') (ai ps)):=⟨⟨ao HOa1.out.1 ex2,HOa1.out.2.ext ex2⟩⟩
    have M2:=bx (L1.out.ext ex2);have T2:x2.cell? ⟨G,2,none⟩=some (C AB k cB)/\x2.cell? ⟨B7,0,none⟩=some (.int .i64 num)/\x2.cell? ⟨B7,1,none⟩=some (.int .i64 k)/\x2.cell? ⟨B7,2,none⟩=some (C Aq ps.length cq)/\x2.cell? ⟨B8,0,none⟩=some (C A' (ai ps).length c'):=⟨HSa2.out.bx.c 2 rfl,HBa2.out.1.c 0 rfl,HBa2.out.1.c 1 rfl,HBa2.out.1.c 2 rfl,HBa2.out.2.c 0 rfl⟩
    have U2:=HSa2.out.bx.c 1 rfl;refine hK.out _ _ (⟨fun _=>U2,fun _=>T2⟩) ?_;clear hK K;try simp only[kA]
    refine cn 4 (by kernel_rfl) rfl (fun K hK=>?_);refine step_append_lies _ (by rfl) _ _ _ (by rfl) w.heap.size 64 iP _ 3 40 underlying25 hiP hp0 hp1 hp2 rfl (by omega) (C AP k cP) k (ys.map gD).flatten (by rfl) (by have:=HSa2.out.oP.own;rw[HG.out.1]at this;exact this) ⟨x1.heap.size,0,none⟩ 1 1 (gD ((⟨num,k,ps⟩:je),Value.slice Aq ps.length cq)) (by rfl) (by rfl) (World.news_of_block L2.out) (by simp[Value.oneCell',gD]) (by omega) (by unfold maxLen;omega) (by omega) (by have:=HSa2.out.bx.lt;have:=HSa2.out.hG;omega) x2.heap.size rfl ?_;intro g3 c3 x3 hown3 hgrow3 _ hlt3;have HSa3:Bx (aH p w x3 G num (C AP k cP) (C AB k cB) (C none 0 0) (C (some ⟨g3,0,none⟩) (k+1) c3) (C AB k cB) (C none 0 0) (ys++[((⟨num,k,ps⟩:je),Value.slice Aq ps.length cq)]) bs []):=⟨HSa2.out.growP (y:=((⟨num,k,ps⟩:je),Value.slice Aq ps.length cq)) hlt hgrow3 (by rw[HG.out.1];exact hown3) HOa2.out.1⟩
    have HBa3:Bx (Bk x3 B7 #[.int .i64 num,.int .i64 k,C Aq ps.length cq] 64/\Bk x3 B8 #[C A' (ai ps).length c'] 61):=⟨⟨HBa2.out.1.grown hgrow3 HPB.out.1,eo HBa2.out.2 HSa2.out.oP.own (by decide) hgrow3⟩⟩
    have HOa3:Bx (dZ w.heap.size x3 (C Aq ps.length cq) ps/\dn w.heap.size x3 (C A' (ai ps).length c') (ai ps)):=⟨⟨cO HOa2.out.1 HSa2.out.oP.own (by decide) hgrow3,HOa2.out.2.apart HSa2.out.oP.own (by decide) (by decide) hgrow3⟩⟩
    have M3:Bx (Bk x3 w6.heap.size #[C A' (ai ps).length c'] 61):=⟨eo M2.out HSa2.out.oP.own (by decide) hgrow3⟩
    clear hown3 hgrow3;have T3:x3.cell? ⟨G,2,none⟩=some (C AB k cB)/\x3.cell? ⟨B7,0,none⟩=some (.int .i64 num)/\x3.cell? ⟨B7,1,none⟩=some (.int .i64 k)/\x3.cell? ⟨B7,2,none⟩=some (C Aq ps.length cq)/\x3.cell? ⟨B8,0,none⟩=some (C A' (ai ps).length c'):=⟨HSa3.out.bx.c 2 rfl,HBa3.out.1.c 0 rfl,HBa3.out.1.c 1 rfl,HBa3.out.1.c 2 rfl,HBa3.out.2.c 0 rfl⟩
    have U3:=HSa3.out.bx.c 1 rfl;refine hK.out _ _ (⟨fun _=>U3,fun _=>T3⟩) ?_;clear hK K;try simp only[kA]
    refine bT _ 13 10 (some 40) (v:=?kv11) rfl rfl (by kernel_rfl) (by kernel_rfl) (by kernel_rfl) (by kernel_rfl) (by kernel_rfl) (fun _ _ _ h=>h) (by rfl) (fun _ _ h hs=>hs.2 h) (xw.put (by decide) (by decide)) ?ky11 (⟨fun _=>U3,fun _=>T3⟩) ?kr11;case ky11=>((intro wk hk);(try dsimp only at hk);go_simp;try with_reducible rfl)
    try simp only[kA]
    refine cn 9 (by kernel_rfl) rfl (fun K hK=>?_);refine step_append_lies _ (by rfl) _ _ _ (by rfl) w.heap.size 61 iB _ 1 24 underlying26 hiB hb0 hb1 hb2 rfl (by omega) (C AB k cB) k (bs.map CW).flatten (by rfl) (by have:=HSa3.out.oB.own;rw[HG.out.2.1,HG.out.1]at this;exact this) ⟨w6.heap.size,0,none⟩ 1 1 (CW (ai ps,Value.slice A' (ai ps).length c')) (by rfl) (by rfl) (World.news_of_block M3.out) (by simp[Value.oneCell',CW]) (by omega) (by unfold maxLen;omega) (by omega) (by have:=HSa3.out.bx.lt;have:=HSa3.out.hG;omega) x3.heap.size rfl ?_;intro g4 c4 x4 hown4 hgrow4 _ hlt4;have HSa4:Bx (aH p w x4 G num (C AP k cP) (C AB k cB) (C none 0 0) (C (some ⟨g3,0,none⟩) (k+1) c3) (C (some ⟨g4,0,none⟩) (k+1) c4) (C none 0 0) (ys++[((⟨num,k,ps⟩:je),Value.slice Aq ps.length cq)]) (bs++[(ai ps,Value.slice A' (ai ps).length c')]) []):=⟨HSa3.out.growB (y:=(ai ps,Value.slice A' (ai ps).length c')) hlt hgrow4 (by rw[HG.out.2.1,HG.out.1];exact hown4) HOa3.out.2⟩
    have HBa4:Bx (Bk x4 B7 #[.int .i64 num,.int .i64 k,C Aq ps.length cq] 64/\Bk x4 B8 #[C A' (ai ps).length c'] 61):=⟨⟨eo HBa3.out.1 HSa3.out.oB.own (by decide) hgrow4,HBa3.out.2.grown hgrow4 HPB.out.2⟩⟩
    clear hown4 hgrow4;have T4:x4.cell? ⟨G,2,none⟩=some (C AB k cB)/\x4.cell? ⟨B7,0,none⟩=some (.int .i64 num)/\x4.cell? ⟨B7,1,none⟩=some (.int .i64 k)/\x4.cell? ⟨B7,2,none⟩=some (C Aq ps.length cq)/\x4.cell? ⟨B8,0,none⟩=some (C A' (ai ps).length c'):=⟨HSa4.out.bx.c 2 rfl,HBa4.out.1.c 0 rfl,HBa4.out.1.c 1 rfl,HBa4.out.1.c 2 rfl,HBa4.out.2.c 0 rfl⟩
    have U4:=HSa4.out.bx.c 1 rfl;refine hK.out _ _ (⟨fun _=>U4,fun _=>T4⟩) ?_;clear hK K;try simp only[kA]
    have f1:=HSa4.out.bx.froz 1;refine cn 11 (by kernel_rfl) rfl (fun K hK=>?_);go_simp;have HSs:Bx (aH p w (x4.setCell ⟨G,1,none⟩ (C (some ⟨g3,0,none⟩) (k+1) c3)) G num (C (some ⟨g3,0,none⟩) (k+1) c3) (C AB k cB) (C none 0 0) (C (some ⟨g3,0,none⟩) (k+1) c3) (C (some ⟨g4,0,none⟩) (k+1) c4) (C none 0 0) (ys++[((⟨num,k,ps⟩:je),Value.slice Aq ps.length cq)]) (bs++[(ai ps,Value.slice A' (ai ps).length c')]) []):=⟨HSa4.out.set hlt rfl⟩
    have HBs:Bx (Bk (x4.setCell ⟨G,1,none⟩ (C (some ⟨g3,0,none⟩) (k+1) c3)) B7 #[.int .i64 num,.int .i64 k,C Aq ps.length cq] 64/\Bk (x4.setCell ⟨G,1,none⟩ (C (some ⟨g3,0,none⟩) (k+1) c3)) B8 #[C A' (ai ps).length c'] 61):=⟨⟨HBa4.out.1.far HPG.out.1 _,HBa4.out.2.far HPG.out.2 _⟩⟩
    obtain⟨y1,hy1⟩:=nm (x4.setCell ⟨G,1,none⟩ (C (some ⟨g3,0,none⟩) (k+1) c3));rw[<-hy1]at HSs HBs⊢;clear hy1;have Ts:y1.cell? ⟨G,2,none⟩=some (C AB k cB)/\y1.cell? ⟨B7,0,none⟩=some (.int .i64 num)/\y1.cell? ⟨B7,1,none⟩=some (.int .i64 k)/\y1.cell? ⟨B7,2,none⟩=some (C Aq ps.length cq)/\y1.cell? ⟨B8,0,none⟩=some (C A' (ai ps).length c'):=⟨HSs.out.bx.c 2 rfl,HBs.out.1.c 0 rfl,HBs.out.1.c 1 rfl,HBs.out.1.c 2 rfl,HBs.out.2.c 0 rfl⟩
    refine hK.out _ _ (⟨fh (by kernel_rfl),fun _=>Ts⟩) ?_;clear hK K;try simp only[kA]
    refine bT _ 13 12 (some 41) (v:=?kv12) rfl rfl (by kernel_rfl) (by kernel_rfl) (by kernel_rfl) (by kernel_rfl) (by kernel_rfl) (fun _ _ _ h=>h) (by rfl) (fun _ _ h hs=>hs.2 h) (xw.put (by decide) (by decide)) ?ky12 (⟨fh (by kernel_rfl),fun _=>Ts⟩) ?kr12;case ky12=>((intro wk hk);(try dsimp only at hk);go_simp;try with_reducible rfl)
    try simp only[kA]
    have f3:=HSs.out.bx.froz 2;have d3:=Ts.1;refine cn 13 (by kernel_rfl) rfl (fun K hK=>?_);go_simp;refine hK.out _ _ (⟨fh (by kernel_rfl),fh (by kernel_rfl)⟩) ?_;clear hK K;refine kN (by kernel_rfl) ?_ _;have HSe:Bx (aH p w (y1.setCell ⟨G,2,none⟩ (C (some ⟨g4,0,none⟩) (k+1) c4)) G num (C (some ⟨g3,0,none⟩) (k+1) c3) (C (some ⟨g4,0,none⟩) (k+1) c4) (C none 0 0) (C (some ⟨g3,0,none⟩) (k+1) c3) (C (some ⟨g4,0,none⟩) (k+1) c4) (C none 0 0) (ys++[((⟨num,k,ps⟩:je),Value.slice Aq ps.length cq)]) (bs++[(ai ps,Value.slice A' (ai ps).length c')]) []):=⟨HSs.out.set hlt rfl⟩
    go_wp2_with fail;go_roundw
    case rel=>exact⟨k+1,_,_,_,_,_,_,by go_num,by omega,⟨⟨HSe.out,by simp[HG.out.1],fF.snoc HG.out.2 HG.out.1 HPS.out.1 HPS.out.2⟩⟩⟩
    case measure=>simp[intOf];omega
  ·
   have hk1:1<=k:=by omega
   have HX0:Bx (aH p w w2 G num (C AP k cP) (C AB k cB) (C none 0 0) (C AP k cP) (C AB k cB) (C none 0 0) ys bs []/\kM 0 k []):=⟨⟨HS2.out,kM.nil k⟩⟩
   clear HS2;go_wp2_with fail;clear hkr hr1 hr2;go_loopw [10] (fun s10 wr=>∃(i m:Nat) (AX:Option Addr) (cX:Nat) (xs:List fv),s10=.int .i64 i/\i<=4/\m<=i/\Bx (aH p w wr G num (C AP k cP) (C AB k cB) (C AX m cX) (C AP k cP) (C AB k cB) (C AX m cX) ys bs xs/\kM i k xs/\xs.length=m)) (fun i _=>4-(intOf i).toNat)
   case atStart=>exact⟨0,0,none,0,[],rfl,by omega,by omega,⟨⟨HX0.out.1,HX0.out.2,rfl⟩⟩⟩
   case round =>
    obtain⟨i,m,AX,cX,xs,rfl,hi,hm,HR⟩:=hrel;clear HX0;by_cases hi4:i<4
    ·go_wp2_with fail;refine (am p 4 _ HR.out.1.tp (by omega)).mono ?_;rintro e w3 ⟨v3,rfl,⟨r3,rfl,hr1,hr2⟩,HT3,HX3⟩;have HS3:=bx (HR.out.1.step hlt HX3 HT3);have HXO:Bx (kM i k xs/\xs.length=m):=⟨HR.out.2⟩
     clear HR HT3 HX3;by_cases hr0:0<r3
     ·have hS:w3.drew.cell? ⟨G,3,none⟩=some (C AX m cX)/\w3.drew.cell? ⟨G,1,none⟩=some (C AP k cP):=⟨HS3.out.bx.c 3 rfl,HS3.out.bx.c 1 rfl⟩
      go_upto_region 12 with (fail)
      refine zR 14 (fun w'=>w'.cell? ⟨G,3,none⟩=some (C AX m cX)/\w'.cell? ⟨G,1,none⟩=some (C AP k cP)) ?_;refine zS 8 [(0,49),(1,50),(2,51),(3,52),(5,54),(6,55),(7,56),(8,57)] hS ?_;iterate 8 refine zT ?_
      refine zN (zO 4 (fun K hK=>?_));go_simp;refine (az p 1 2 _ (HS3.out.tp.ext (zE _).drew) (by omega) (by omega) (by omega) (by omega)).mono ?_;rintro e w4 ⟨v4,rfl,⟨cen,rfl,hc1,hc2⟩,HT4,HX4⟩;have HS4:=bx (HS3.out.step hlt ((XT.drew (XT.refl _ _)).trans HX4) HT4);clear HT4 HX4 hS;have hS:w4.cell? ⟨G,3,none⟩=some (C AX m cX)/\w4.cell? ⟨G,1,none⟩=some (C AP k cP):=⟨HS4.out.bx.c 3 rfl,HS4.out.bx.c 1 rfl⟩
      refine hK.out _ _ (fun _=>hS) ?_;clear hK K;try simp only[kA]
      refine zO 9 (fun K hK=>?_);go_simp;refine (am p _ _ HS4.out.tp (by omega)).mono ?_;rintro e w5 ⟨v5,rfl,⟨var,rfl,hv1,hv2⟩,HT5,HX5⟩;have HS5:=bx (HS4.out.step hlt HX5 HT5);clear HT5 HX5 hS;have hS:w5.cell? ⟨G,3,none⟩=some (C AX m cX)/\w5.cell? ⟨G,1,none⟩=some (C AP k cP):=⟨HS5.out.bx.c 3 rfl,HS5.out.bx.c 1 rfl⟩
      refine hK.out _ _ (fun _=>hS) ?_;clear hK K;try simp only[kA]
      refine zS 1 [(10,59)] hS ?_;refine zT ?_;refine zN (zO 11 (fun K hK=>?_));go_simp;obtain⟨w6,hw6⟩:=nm (w5.alloc (.cells #[.int .i64 i,.int .i64 cen,.int .i64 var] 56));rw[<-hw6];have e6:ab w5 w6:=by rw[hw6];exact (zE _).alloc _
      have L6:Bx (Bk w6 w5.heap.size #[.int .i64 i,.int .i64 cen,.int .i64 var] 56):=⟨by rw[hw6];exact Bk.new w5 _ _⟩
      have HS6:=bx (HS5.out.ext hlt e6);clear hw6 e6 hS;have hS:w6.cell? ⟨G,3,none⟩=some (C AX m cX)/\w6.cell? ⟨G,1,none⟩=some (C AP k cP):=⟨HS6.out.bx.c 3 rfl,HS6.out.bx.c 1 rfl⟩
      refine hK.out _ _ (fun _=>hS) ?_;clear hK K;try simp only[kA]
      refine zO 12 (fun K hK=>?_);refine step_append_lies _ (by rfl) _ _ _ (by rfl) w.heap.size 56 iX _ 3 24 underlying27 hiX hx0 hx1 hx2 rfl (by omega) (C AX m cX) m (xs.map fv.cells).flatten (by rfl) (by have:=HS6.out.oX.own;rw[HXO.out.2]at this;exact this) ⟨w5.heap.size,0,none⟩ 1 1 (fv.cells ⟨i,cen,var⟩) (by rfl) (by rfl) (World.news_of_block L6.out) (by simp[Value.oneCell',fv.cells]) (by omega) (by unfold maxLen;omega) (by omega) (by have:=HS6.out.bx.lt;have:=HS6.out.hG;omega) w6.heap.size rfl ?_;intro g7 c7 w7 hown7 hgrow7 _ hlt7;have HS7:Bx (aH p w w7 G num (C AP k cP) (C AB k cB) (C AX m cX) (C AP k cP) (C AB k cB) (C (some ⟨g7,0,none⟩) (m+1) c7) ys bs (xs++[⟨i,cen,var⟩])):=⟨HS6.out.growX hlt hgrow7 (by rw[HXO.out.2];exact hown7)⟩
      clear hown7 hgrow7 hS;have hS:w7.cell? ⟨G,3,none⟩=some (C AX m cX)/\w7.cell? ⟨G,1,none⟩=some (C AP k cP):=⟨HS7.out.bx.c 3 rfl,HS7.out.bx.c 1 rfl⟩
      refine hK.out _ _ (fun _=>hS) ?_;clear hK K;try simp only[kA]
      refine zS 1 [(13,62)] hS ?_;refine zT ?_;refine zN ?_;have f3:=HS7.out.bx.froz 3;have d3:=hS.1;refine zO 14 (fun K hK=>?_);go_simp;refine hK.out _ _ (fun h=>absurd rfl h) ?_;clear hK K;refine zD ?_;have HS8:Bx (aH p w (w7.setCell ⟨G,3,none⟩ (C (some ⟨g7,0,none⟩) (m+1) c7)) G num (C AP k cP) (C AB k cB) (C (some ⟨g7,0,none⟩) (m+1) c7) (C AP k cP) (C AB k cB) (C (some ⟨g7,0,none⟩) (m+1) c7) ys bs (xs++[⟨i,cen,var⟩])):=⟨HS7.out.set hlt rfl⟩
      go_wp2_with fail;go_roundw
      case rel=>exact⟨i+1,m+1,_,_,_,by go_num,by omega,by omega,⟨⟨HS8.out,kM.snoc HXO.out.1 ⟨by omega,by omega⟩ ⟨by omega,by omega⟩,by simp[HXO.out.2]⟩⟩⟩
      case measure=>simp[intOf];omega
     ·go_wp2_with fail;go_roundw
      case rel=>exact⟨i+1,m,_,_,_,by go_num,by omega,by omega,⟨⟨HS3.out,kM.skip HXO.out.1,HXO.out.2⟩⟩⟩
      case measure=>simp[intOf];omega
    ·obtain rfl:i=4:=by omega
     have HW:Bx (CK ys/\FI 2 bs/\Kv 4 xs):=⟨⟨(HG.out.2.wf ⟨by omega,by omega⟩ (by have:=HG.out.1;omega)).1,(HG.out.2.wf ⟨by omega,by omega⟩ (by have:=HG.out.1;omega)).2,HR.out.2.1.wf (by omega)⟩⟩
     have HOK:Bx (dU ⟨num,ys.map Prod.fst,bs.map Prod.fst,xs⟩):=⟨KQ ⟨by omega,by omega⟩ HG.out.2 HG.out.1 ⟨by omega,by omega⟩ HR.out.2.1⟩
     have HXL:Bx (xs.length=m):=⟨HR.out.2.2⟩
     have HS9:Bx (aH p w wr G num (C AP k cP) (C AB k cB) (C AX m cX) (C AP k cP) (C AB k cB) (C AX m cX) ys bs xs):=⟨HR.out.1⟩
     clear HR;go_upto_region 13 with (fail)
     go_cut [69] (fun s69 wx=>∃b:Bool,s69=.bool b/\Bx ((b=true->0<n)/\aH p w wx G num (C AP k cP) (C AB k cB) (C AX m cX) (C AP k cP) (C AB k cB) (C AX m cX) ys bs xs))
     case first =>
      by_cases hnp:0<n
      ·go_wp2_with fail;refine (fe p n _ HS9.out.tp (by omega) (by omega)).mono ?_;rintro e w3 ⟨v3,rfl,⟨b,rfl⟩,HT3,HX3⟩;go_wp2_with fail;go_meet
       exact⟨b,rfl,⟨fun _=>hnp,HS9.out.step hlt HX3 HT3⟩⟩
      ·go_wp2_with fail;go_meet
       exact⟨false,rfl,⟨(fun h=>by cases h),HS9.out⟩⟩
     case rest =>
     obtain⟨b,rfl,HR3⟩:=hcut;clear HS9;have HS3:Bx (aH p w wc G num (C AP k cP) (C AB k cB) (C AX m cX) (C AP k cP) (C AB k cB) (C AX m cX) ys bs xs):=⟨HR3.out.2⟩
     have HN3:Bx (b=true->0<n):=⟨HR3.out.1⟩
     clear HR3;go_upto_if 69 with (fail)
     go_cut [] (fun wx=>Bx (LB p w wx G n))
     case first =>
      cases b with
      |false =>
       go_wp2_with fail;go_meet
       exact⟨⟨_,_,_,_,_,_,_,_,_,_,_,_,_,HS3.out,kB ⟨by omega,by omega⟩ HW.out.1 ⟨by have:=HW.out.2.1.1;omega,HW.out.2.1.2⟩ ⟨by have:=HW.out.2.2.1;omega,HW.out.2.2.2⟩,fun _=>HOK.out⟩⟩
      |true =>
       have hnp:0<n:=HN3.out rfl;go_wp2_with fail;refine (am p 5 _ HS3.out.tp (by omega)).mono ?_;rintro e w4 ⟨v4,rfl,⟨r4,rfl,hr1,hr2⟩,HT4,HX4⟩;have HS4:=bx (HS3.out.step hlt HX4 HT4);clear HS3 HT4 HX4;by_cases c0:r4=0
       ·subst c0;have k0:((0:Int)==0)=true:=rfl;go_wp2_with fail;refine (dt p _ [-1,0,1,31,32] _ (HS4.out.tp.ext ((zE _).alloc _)) (ak.lit _ _ (by have:=HS4.out.bx.lt;have:=HS4.out.hG;omega) (by decide) (by decide)) (by simp)).mono ?_;rintro e w5 ⟨v5,rfl,⟨x,rfl,hx⟩,HT5,HX5⟩;have hxb:-1<=x/\x<=32:=by simp at hx;omega
        have HS5:Bx (aH p w w5 G num (C AP k cP) (C AB k cB) (C AX m cX) (C AP k cP) (C AB k cB) (C AX m cX) ys bs xs):=⟨(HS4.out.ext hlt ((zE _).alloc _)).step hlt HX5 HT5⟩
        clear HS4 HT5 HX5 hx;have q0:=HS5.out.bx.c 0 rfl;have qf:=HS5.out.bx.froz 0;have HS6:Bx (aH p w (w5.setCell ⟨G,0,none⟩ (.int .i64 x)) G x (C AP k cP) (C AB k cB) (C AX m cX) (C AP k cP) (C AB k cB) (C AX m cX) ys bs xs):=⟨HS5.out.set hlt rfl⟩
        go_wp2_with fail;go_meet
        exact⟨⟨_,_,_,_,_,_,_,_,_,_,_,_,_,HS6.out,kB ⟨by omega,by omega⟩ HW.out.1 ⟨by have:=HW.out.2.1.1;omega,HW.out.2.1.2⟩ ⟨by have:=HW.out.2.2.1;omega,HW.out.2.2.2⟩,fun h=>by omega⟩⟩
       ·by_cases c1:r4=1
        ·skip
         have k0:(r4==0)=false:=beq_eq_false_iff_ne.2 c0;have k1:(r4==1)=true:=by rw[c1];rfl
         have q2:=HS4.out.bx.c 2 rfl;have qf:=HS4.out.bx.froz 2;go_wp2_with (at_builtin;refine cZ _ rfl (.tmp 82) (.tmp 84) 26 rfl w.heap.size 61 iB _ 1 24 underlying26 hiB hb0 hb1 hb2 rfl (by omega) (C AB k cB) k (bs.map CW).flatten rfl (by have:=(HS4.out.ext hlt ((zE _).alloc (.cells #[C none 0 0] 61))).oB.own;rw[HG.out.2.1,HG.out.1]at this;exact this) _ #[C none 0 0] _ rfl (heap_alloc_new _ _) rfl (by simp[Value.oneCell']) (by omega) (by omega) (by have:=HS4.out.bx.lt;have:=HS4.out.hG;simp;omega) ?_;intro v' w5 hown5 hg5;obtain⟨g',cap',rfl,_,_⟩:=di hown5 (by omega);have HS5:Bx (aH p w w5 G num (C AP k cP) (C AB k cB) (C AX m cX) (C AP k cP) (C (some ⟨g',0,none⟩) (k+1) cap') (C AX m cX) ys (bs++[([],C none 0 0)]) xs):=⟨(HS4.out.ext hlt ((zE _).alloc (.cells #[C none 0 0] 61))).growB (y:=([],C none 0 0)) hlt hg5 (by rw[HG.out.2.1,HG.out.1];exact hown5) (dn.nil _ _)⟩;have q3:=HS5.out.bx.c 2 rfl;have qf3:=HS5.out.bx.froz 2;have HS6:Bx (aH p w (w5.setCell ⟨G,2,none⟩ (C (some ⟨g',0,none⟩) (k+1) cap')) G num (C AP k cP) (C (some ⟨g',0,none⟩) (k+1) cap') (C AX m cX) (C AP k cP) (C (some ⟨g',0,none⟩) (k+1) cap') (C AX m cX) ys (bs++[([],C none 0 0)]) xs):=⟨HS5.out.set hlt rfl⟩;clear hown5 hg5;have g0:=HS6.out.bx.c 0 rfl;have g1:=HS6.out.bx.c 1 rfl;have g2:=HS6.out.bx.c 2 rfl;have g3:=HS6.out.bx.c 3 rfl;have z0:=HS6.out.r0.c 0 rfl;have z1:=HS6.out.r0.c 1 rfl;have z2:=HS6.out.r0.c 2 rfl;have z3:=HS6.out.r0.c 3 rfl;have f0:=HS6.out.r0.froz 0;have f1:=HS6.out.r0.froz 1;have f2:=HS6.out.r0.froz 2;have f3:=HS6.out.r0.froz 3);go_meet
         exact⟨⟨_,_,_,_,_,_,_,_,_,_,_,_,_,HS6.out,kB ⟨by omega,by omega⟩ HW.out.1 ⟨by have:=HW.out.2.1.1;simp;omega,fun b hb=>by rcases zM.1 hb with hb|hb;exact HW.out.2.1.2 b hb;obtain rfl:b=_:=(by simpa using hb);exact⟨by simp,fun l hl=>by simp at hl⟩⟩ ⟨by have:=HW.out.2.2.1;omega,HW.out.2.2.2⟩,fun h=>by omega⟩⟩
        ·by_cases c2:r4=2
         ·skip
          have k0:(r4==0)=false:=beq_eq_false_iff_ne.2 c0;have k1:(r4==1)=false:=beq_eq_false_iff_ne.2 c1;have k2:(r4==2)=true:=by rw[c2];rfl
          have hS:w4.drew.cell? ⟨G,3,none⟩=some (C AX m cX):=HS4.out.bx.c 3 rfl;go_upto_region 21 with (fail)
          refine zR 14 (fun w'=>w'.cell? ⟨G,3,none⟩=some (C AX m cX)) ?_;refine zS 5 [(0,89),(1,90),(2,91),(5,94),(8,97)] hS ?_;iterate 5 refine zT ?_
          refine zN (an 3 6 (by kernel_rfl) rfl rfl (fun K hK=>?_) (fun K hK=>?_))
          ·go_simp;obtain⟨w5,hw5⟩:=nm ((w4.alloc (.cells #[.int .i64 0,.int .i64 9999,.int .i64 10000,.int .i64 (-1)] 3)).drew);rw[<-hw5];have ew5:ab w4 w5:=by rw[hw5];exact ((zE _).alloc _).drew
           have I1:Bx (ak p w5 (C (some ⟨w4.heap.size,0,none⟩) 4 4) [0,9999,10000,-1]):=⟨by rw[hw5];exact (ak.lit [0,9999,10000,-1] _ (by have:=HS4.out.bx.lt;have:=HS4.out.hG;omega) (by decide) (by decide)).ext ((zE _).drew)⟩
           have HS5:=bx (HS4.out.ext hlt ew5);clear hw5 ew5 hS;have hS:w5.cell? ⟨G,3,none⟩=some (C AX m cX):=HS5.out.bx.c 3 rfl;refine hK.out _ _ (fun _=>hS) ?_;clear hK K;try simp only[kA]
           refine an 4 6 (by kernel_rfl) rfl rfl (fun K hK=>?_) (fun K hK=>?_)
           ·go_simp;refine (dt p _ [0,9999,10000,-1] _ HS5.out.tp I1.out (by simp)).mono ?_;rintro e w6 ⟨vv6,rfl,⟨ca,rfl,hca⟩,HTc,HXc⟩;have hcb:-1<=ca/\ca<=10000:=by simp at hca;omega
            clear hca;have HS6:=bx (HS5.out.step hlt HXc HTc);clear HTc HXc hS;have hS:w6.cell? ⟨G,3,none⟩=some (C AX m cX):=HS6.out.bx.c 3 rfl;refine hK.out _ _ (fun _=>hS) ?_;clear hK K;try simp only[kA]
            refine zO 6 (fun K hK=>?_);go_simp;obtain⟨w7,hw7⟩:=nm ((w6.alloc (.cells #[.int .i64 0,.int .i64 1,.int .i64 99,.int .i64 100] 3)));rw[<-hw7];have ew7:ab w6 w7:=by rw[hw7];exact (zE _).alloc _
            have I2:Bx (ak p w7 (C (some ⟨w6.heap.size,0,none⟩) 4 4) [0,1,99,100]):=⟨by rw[hw7];exact ak.lit [0,1,99,100] _ (by have:=HS6.out.bx.lt;have:=HS6.out.hG;omega) (by decide) (by decide)⟩
            have HS7:=bx (HS6.out.ext hlt ew7);clear hw7 ew7 hS;have hS:w7.cell? ⟨G,3,none⟩=some (C AX m cX):=HS7.out.bx.c 3 rfl;refine hK.out _ _ (fun _=>hS) ?_;clear hK K;try simp only[kA]
            refine zO 7 (fun K hK=>?_);go_simp;refine (dt p _ [0,1,99,100] _ HS7.out.tp I2.out (by simp)).mono ?_;rintro e w8 ⟨vv8,rfl,⟨ce,rfl,hce⟩,HTc,HXc⟩;have hcd:0<=ce/\ce<=100:=by simp at hce;omega
            clear hce;have HS8:=bx (HS7.out.step hlt HXc HTc);clear HTc HXc hS;have hS:w8.cell? ⟨G,3,none⟩=some (C AX m cX):=HS8.out.bx.c 3 rfl;refine hK.out _ _ (fun _=>hS) ?_;clear hK K;try simp only[kA]
            refine zO 9 (fun K hK=>?_);go_simp;refine (az p (-1) 2 _ HS8.out.tp (by omega) (by omega) (by omega) (by omega)).mono ?_;rintro e w9 ⟨vv9,rfl,⟨va,rfl,hv1,hv2⟩,HTc,HXc⟩;have HS9:=bx (HS8.out.step hlt HXc HTc);clear HTc HXc hS;have hS:w9.cell? ⟨G,3,none⟩=some (C AX m cX):=HS9.out.bx.c 3 rfl;refine hK.out _ _ (fun _=>hS) ?_;clear hK K;try simp only[kA]
            refine zS 1 [(10,99)] hS ?_;refine zT ?_;refine zN (zO 11 (fun K hK=>?_));go_simp;obtain⟨wa,hwa⟩:=nm (w9.alloc (.cells #[.int .i64 ca,.int .i64 ce,.int .i64 va] 56));rw[<-hwa];have ewa:ab w9 wa:=by rw[hwa];exact (zE _).alloc _
            have LX:Bx (Bk wa w9.heap.size #[.int .i64 ca,.int .i64 ce,.int .i64 va] 56):=⟨by rw[hwa];exact Bk.new w9 _ _⟩
            have HSa:=bx (HS9.out.ext hlt ewa);clear hwa ewa hS;have hS:wa.cell? ⟨G,3,none⟩=some (C AX m cX):=HSa.out.bx.c 3 rfl;refine hK.out _ _ (fun _=>hS) ?_;clear hK K;try simp only[kA]
            refine zO 12 (fun K hK=>?_);refine step_append_lies _ (by rfl) _ _ _ (by rfl) w.heap.size 56 iX _ 3 24 underlying27 hiX hx0 hx1 hx2 rfl (by omega) (C AX m cX) m (xs.map fv.cells).flatten (by rfl) (by have:=HSa.out.oX.own;rw[HXL.out]at this;exact this) ⟨w9.heap.size,0,none⟩ 1 1 (fv.cells ⟨ca,ce,va⟩) (by rfl) (by rfl) (World.news_of_block LX.out) (by simp[Value.oneCell',fv.cells]) (by omega) (by unfold maxLen;omega) (by omega) (by have:=HSa.out.bx.lt;have:=HSa.out.hG;omega) wa.heap.size rfl ?_;intro g9 c9 wb hown9 hgrow9 _ hlt9;have HSb:Bx (aH p w wb G num (C AP k cP) (C AB k cB) (C AX m cX) (C AP k cP) (C AB k cB) (C (some ⟨g9,0,none⟩) (m+1) c9) ys bs (xs++[⟨ca,ce,va⟩])):=⟨HSa.out.growX hlt hgrow9 (by rw[HXL.out];exact hown9)⟩
            clear hown9 hgrow9 hS;have hS:wb.cell? ⟨G,3,none⟩=some (C AX m cX):=HSb.out.bx.c 3 rfl;refine hK.out _ _ (fun _=>hS) ?_;clear hK K;try simp only[kA]
            refine zS 1 [(13,102)] hS ?_;refine zT ?_;refine zN ?_;have qf:=HSb.out.bx.froz 3;refine zO 14 (fun K hK=>?_);go_simp;refine hK.out _ _ (fun h=>absurd rfl h) ?_;clear hK K;refine zD ?_;have HSc:Bx (aH p w (wb.setCell ⟨G,3,none⟩ (C (some ⟨g9,0,none⟩) (m+1) c9)) G num (C AP k cP) (C AB k cB) (C (some ⟨g9,0,none⟩) (m+1) c9) (C AP k cP) (C AB k cB) (C (some ⟨g9,0,none⟩) (m+1) c9) ys bs (xs++[⟨ca,ce,va⟩])):=⟨HSb.out.set hlt rfl⟩
            go_wp2_with fail;go_meet
            exact⟨⟨_,_,_,_,_,_,_,_,_,_,_,_,_,HSc.out,kB ⟨by omega,by omega⟩ HW.out.1 ⟨by have:=HW.out.2.1.1;omega,HW.out.2.1.2⟩ ⟨by have:=HW.out.2.2.1;simp;omega,fun x hx=>by rcases zM.1 hx with hx|hx;exact HW.out.2.2.2 x hx;obtain rfl:x=_:=(by simpa using hx);simp only;omega⟩,fun h=>by omega⟩⟩
           ·go_simp;obtain⟨w6,hw6⟩:=nm ((w5.alloc (.cells #[.int .i64 0,.int .i64 1,.int .i64 99,.int .i64 100] 3)));rw[<-hw6];have ew6:ab w5 w6:=by rw[hw6];exact (zE _).alloc _
            have I2:Bx (ak p w6 (C (some ⟨w5.heap.size,0,none⟩) 4 4) [0,1,99,100]):=⟨by rw[hw6];exact ak.lit [0,1,99,100] _ (by have:=HS5.out.bx.lt;have:=HS5.out.hG;omega) (by decide) (by decide)⟩
            have HS6:=bx (HS5.out.ext hlt ew6);replace I1:Bx (ak p w6 (C (some ⟨w4.heap.size,0,none⟩) 4 4) [0,9999,10000,-1]):=⟨I1.out.ext ew6⟩
            clear hw6 ew6 hS;have hS:w6.cell? ⟨G,3,none⟩=some (C AX m cX):=HS6.out.bx.c 3 rfl;refine hK.out _ _ (fun _=>hS) ?_;clear hK K;try simp only[kA]
            refine zO 4 (fun K hK=>?_);go_simp;refine (dt p _ [0,9999,10000,-1] _ HS6.out.tp I1.out (by simp)).mono ?_;rintro e w7 ⟨vv7,rfl,⟨ca,rfl,hca⟩,HTc,HXc⟩;have hcb:-1<=ca/\ca<=10000:=by simp at hca;omega
            clear hca;have HS7:=bx (HS6.out.step hlt HXc HTc);replace I2:Bx (ak p w7 (C (some ⟨w5.heap.size,0,none⟩) 4 4) [0,1,99,100]):=⟨I2.out.xt HXc⟩
            clear HTc HXc hS;have hS:w7.cell? ⟨G,3,none⟩=some (C AX m cX):=HS7.out.bx.c 3 rfl;refine hK.out _ _ (fun _=>hS) ?_;clear hK K;try simp only[kA]
            refine zO 7 (fun K hK=>?_);go_simp;refine (dt p _ [0,1,99,100] _ HS7.out.tp I2.out (by simp)).mono ?_;rintro e w8 ⟨vv8,rfl,⟨ce,rfl,hce⟩,HTc,HXc⟩;have hcd:0<=ce/\ce<=100:=by simp at hce;omega
            clear hce;have HS8:=bx (HS7.out.step hlt HXc HTc);clear HTc HXc hS;have hS:w8.cell? ⟨G,3,none⟩=some (C AX m cX):=HS8.out.bx.c 3 rfl;refine hK.out _ _ (fun _=>hS) ?_;clear hK K;try simp only[kA]
            refine zO 9 (fun K hK=>?_);go_simp;refine (az p (-1) 2 _ HS8.out.tp (by omega) (by omega) (by omega) (by omega)).mono ?_;rintro e w9 ⟨vv9,rfl,⟨va,rfl,hv1,hv2⟩,HTc,HXc⟩;have HS9:=bx (HS8.out.step hlt HXc HTc);clear HTc HXc hS;have hS:w9.cell? ⟨G,3,none⟩=some (C AX m cX):=HS9.out.bx.c 3 rfl;refine hK.out _ _ (fun _=>hS) ?_;clear hK K;try simp only[kA]
            refine zS 1 [(10,99)] hS ?_;refine zT ?_;refine zN (zO 11 (fun K hK=>?_));go_simp;obtain⟨wa,hwa⟩:=nm (w9.alloc (.cells #[.int .i64 ca,.int .i64 ce,.int .i64 va] 56));rw[<-hwa];have ewa:ab w9 wa:=by rw[hwa];exact (zE _).alloc _
            have LX:Bx (Bk wa w9.heap.size #[.int .i64 ca,.int .i64 ce,.int .i64 va] 56):=⟨by rw[hwa];exact Bk.new w9 _ _⟩
            have HSa:=bx (HS9.out.ext hlt ewa);clear hwa ewa hS;have hS:wa.cell? ⟨G,3,none⟩=some (C AX m cX):=HSa.out.bx.c 3 rfl;refine hK.out _ _ (fun _=>hS) ?_;clear hK K;try simp only[kA]
            refine zO 12 (fun K hK=>?_);refine step_append_lies _ (by rfl) _ _ _ (by rfl) w.heap.size 56 iX _ 3 24 underlying27 hiX hx0 hx1 hx2 rfl (by omega) (C AX m cX) m (xs.map fv.cells).flatten (by rfl) (by have:=HSa.out.oX.own;rw[HXL.out]at this;exact this) ⟨w9.heap.size,0,none⟩ 1 1 (fv.cells ⟨ca,ce,va⟩) (by rfl) (by rfl) (World.news_of_block LX.out) (by simp[Value.oneCell',fv.cells]) (by omega) (by unfold maxLen;omega) (by omega) (by have:=HSa.out.bx.lt;have:=HSa.out.hG;omega) wa.heap.size rfl ?_;intro g9 c9 wb hown9 hgrow9 _ hlt9;have HSb:Bx (aH p w wb G num (C AP k cP) (C AB k cB) (C AX m cX) (C AP k cP) (C AB k cB) (C (some ⟨g9,0,none⟩) (m+1) c9) ys bs (xs++[⟨ca,ce,va⟩])):=⟨HSa.out.growX hlt hgrow9 (by rw[HXL.out];exact hown9)⟩
            clear hown9 hgrow9 hS;have hS:wb.cell? ⟨G,3,none⟩=some (C AX m cX):=HSb.out.bx.c 3 rfl;refine hK.out _ _ (fun _=>hS) ?_;clear hK K;try simp only[kA]
            refine zS 1 [(13,102)] hS ?_;refine zT ?_;refine zN ?_;have qf:=HSb.out.bx.froz 3;refine zO 14 (fun K hK=>?_);go_simp;refine hK.out _ _ (fun h=>absurd rfl h) ?_;clear hK K;refine zD ?_;have HSc:Bx (aH p w (wb.setCell ⟨G,3,none⟩ (C (some ⟨g9,0,none⟩) (m+1) c9)) G num (C AP k cP) (C AB k cB) (C (some ⟨g9,0,none⟩) (m+1) c9) (C AP k cP) (C AB k cB) (C (some ⟨g9,0,none⟩) (m+1) c9) ys bs (xs++[⟨ca,ce,va⟩])):=⟨HSb.out.set hlt rfl⟩
            go_wp2_with fail;go_meet
            exact⟨⟨_,_,_,_,_,_,_,_,_,_,_,_,_,HSc.out,kB ⟨by omega,by omega⟩ HW.out.1 ⟨by have:=HW.out.2.1.1;omega,HW.out.2.1.2⟩ ⟨by have:=HW.out.2.2.1;simp;omega,fun x hx=>by rcases zM.1 hx with hx|hx;exact HW.out.2.2.2 x hx;obtain rfl:x=_:=(by simpa using hx);simp only;omega⟩,fun h=>by omega⟩⟩
          ·go_simp;obtain⟨w5,hw5⟩:=nm ((w4.alloc (.cells #[.int .i64 0,.int .i64 1,.int .i64 99,.int .i64 100] 3)).drew);rw[<-hw5];have ew5:ab w4 w5:=by rw[hw5];exact ((zE _).alloc _).drew
           have I2:Bx (ak p w5 (C (some ⟨w4.heap.size,0,none⟩) 4 4) [0,1,99,100]):=⟨by rw[hw5];exact (ak.lit [0,1,99,100] _ (by have:=HS4.out.bx.lt;have:=HS4.out.hG;omega) (by decide) (by decide)).ext ((zE _).drew)⟩
           have HS5:=bx (HS4.out.ext hlt ew5);clear hw5 ew5 hS;have hS:w5.cell? ⟨G,3,none⟩=some (C AX m cX):=HS5.out.bx.c 3 rfl;refine hK.out _ _ (fun _=>hS) ?_;clear hK K;try simp only[kA]
           refine zO 3 (fun K hK=>?_);go_simp;obtain⟨w6,hw6⟩:=nm ((w5.alloc (.cells #[.int .i64 0,.int .i64 9999,.int .i64 10000,.int .i64 (-1)] 3)));rw[<-hw6];have ew6:ab w5 w6:=by rw[hw6];exact (zE _).alloc _
           have I1:Bx (ak p w6 (C (some ⟨w5.heap.size,0,none⟩) 4 4) [0,9999,10000,-1]):=⟨by rw[hw6];exact ak.lit [0,9999,10000,-1] _ (by have:=HS5.out.bx.lt;have:=HS5.out.hG;omega) (by decide) (by decide)⟩
           have HS6:=bx (HS5.out.ext hlt ew6);replace I2:Bx (ak p w6 (C (some ⟨w4.heap.size,0,none⟩) 4 4) [0,1,99,100]):=⟨I2.out.ext ew6⟩
           clear hw6 ew6 hS;have hS:w6.cell? ⟨G,3,none⟩=some (C AX m cX):=HS6.out.bx.c 3 rfl;refine hK.out _ _ (fun _=>hS) ?_;clear hK K;try simp only[kA]
           refine zO 4 (fun K hK=>?_);go_simp;refine (dt p _ [0,9999,10000,-1] _ HS6.out.tp I1.out (by simp)).mono ?_;rintro e w7 ⟨vv7,rfl,⟨ca,rfl,hca⟩,HTc,HXc⟩;have hcb:-1<=ca/\ca<=10000:=by simp at hca;omega
           clear hca;have HS7:=bx (HS6.out.step hlt HXc HTc);replace I2:Bx (ak p w7 (C (some ⟨w4.heap.size,0,none⟩) 4 4) [0,1,99,100]):=⟨I2.out.xt HXc⟩
           clear HTc HXc hS;have hS:w7.cell? ⟨G,3,none⟩=some (C AX m cX):=HS7.out.bx.c 3 rfl;refine hK.out _ _ (fun _=>hS) ?_;clear hK K;try simp only[kA]
           refine zO 7 (fun K hK=>?_);go_simp;refine (dt p _ [0,1,99,100] _ HS7.out.tp I2.out (by simp)).mono ?_;rintro e w8 ⟨vv8,rfl,⟨ce,rfl,hce⟩,HTc,HXc⟩;have hcd:0<=ce/\ce<=100:=by simp at hce;omega
           clear hce;have HS8:=bx (HS7.out.step hlt HXc HTc);clear HTc HXc hS;have hS:w8.cell? ⟨G,3,none⟩=some (C AX m cX):=HS8.out.bx.c 3 rfl;refine hK.out _ _ (fun _=>hS) ?_;clear hK K;try simp only[kA]
           refine zO 9 (fun K hK=>?_);go_simp;refine (az p (-1) 2 _ HS8.out.tp (by omega) (by omega) (by omega) (by omega)).mono ?_;rintro e w9 ⟨vv9,rfl,⟨va,rfl,hv1,hv2⟩,HTc,HXc⟩;have HS9:=bx (HS8.out.step hlt HXc HTc);clear HTc HXc hS;have hS:w9.cell? ⟨G,3,none⟩=some (C AX m cX):=HS9.out.bx.c 3 rfl;refine hK.out _ _ (fun _=>hS) ?_;clear hK K;try simp only[kA]
           refine zS 1 [(10,99)] hS ?_;refine zT ?_;refine zN (zO 11 (fun K hK=>?_));go_simp;obtain⟨wa,hwa⟩:=nm (w9.alloc (.cells #[.int .i64 ca,.int .i64 ce,.int .i64 va] 56));rw[<-hwa];have ewa:ab w9 wa:=by rw[hwa];exact (zE _).alloc _
           have LX:Bx (Bk wa w9.heap.size #[.int .i64 ca,.int .i64 ce,.int .i64 va] 56):=⟨by rw[hwa];exact Bk.new w9 _ _⟩
           have HSa:=bx (HS9.out.ext hlt ewa);clear hwa ewa hS;have hS:wa.cell? ⟨G,3,none⟩=some (C AX m cX):=HSa.out.bx.c 3 rfl;refine hK.out _ _ (fun _=>hS) ?_;clear hK K;try simp only[kA]
           refine zO 12 (fun K hK=>?_);refine step_append_lies _ (by rfl) _ _ _ (by rfl) w.heap.size 56 iX _ 3 24 underlying27 hiX hx0 hx1 hx2 rfl (by omega) (C AX m cX) m (xs.map fv.cells).flatten (by rfl) (by have:=HSa.out.oX.own;rw[HXL.out]at this;exact this) ⟨w9.heap.size,0,none⟩ 1 1 (fv.cells ⟨ca,ce,va⟩) (by rfl) (by rfl) (World.news_of_block LX.out) (by simp[Value.oneCell',fv.cells]) (by omega) (by unfold maxLen;omega) (by omega) (by have:=HSa.out.bx.lt;have:=HSa.out.hG;omega) wa.heap.size rfl ?_;intro g9 c9 wb hown9 hgrow9 _ hlt9;have HSb:Bx (aH p w wb G num (C AP k cP) (C AB k cB) (C AX m cX) (C AP k cP) (C AB k cB) (C (some ⟨g9,0,none⟩) (m+1) c9) ys bs (xs++[⟨ca,ce,va⟩])):=⟨HSa.out.growX hlt hgrow9 (by rw[HXL.out];exact hown9)⟩
           clear hown9 hgrow9 hS;have hS:wb.cell? ⟨G,3,none⟩=some (C AX m cX):=HSb.out.bx.c 3 rfl;refine hK.out _ _ (fun _=>hS) ?_;clear hK K;try simp only[kA]
           refine zS 1 [(13,102)] hS ?_;refine zT ?_;refine zN ?_;have qf:=HSb.out.bx.froz 3;refine zO 14 (fun K hK=>?_);go_simp;refine hK.out _ _ (fun h=>absurd rfl h) ?_;clear hK K;refine zD ?_;have HSc:Bx (aH p w (wb.setCell ⟨G,3,none⟩ (C (some ⟨g9,0,none⟩) (m+1) c9)) G num (C AP k cP) (C AB k cB) (C (some ⟨g9,0,none⟩) (m+1) c9) (C AP k cP) (C AB k cB) (C (some ⟨g9,0,none⟩) (m+1) c9) ys bs (xs++[⟨ca,ce,va⟩])):=⟨HSb.out.set hlt rfl⟩
           go_wp2_with fail;go_meet
           exact⟨⟨_,_,_,_,_,_,_,_,_,_,_,_,_,HSc.out,kB ⟨by omega,by omega⟩ HW.out.1 ⟨by have:=HW.out.2.1.1;omega,HW.out.2.1.2⟩ ⟨by have:=HW.out.2.2.1;simp;omega,fun x hx=>by rcases zM.1 hx with hx|hx;exact HW.out.2.2.2 x hx;obtain rfl:x=_:=(by simpa using hx);simp only;omega⟩,fun h=>by omega⟩⟩
         ·by_cases c3:r4=3
          ·skip
           have k0:(r4==0)=false:=beq_eq_false_iff_ne.2 c0;have k1:(r4==1)=false:=beq_eq_false_iff_ne.2 c1;have k2:(r4==2)=false:=beq_eq_false_iff_ne.2 c2;have k3:(r4==3)=true:=by rw[c3];rfl
           obtain⟨gp,cp,hvp,_,_⟩:=di HS4.out.oP.own (by have:=HG.out.1;omega);injection hvp with hA hB hC;clear hB hC;subst hA;have hl0:0<ys.length:=by have:=HG.out.1;omega
           have hS:w4.drew.cell? ⟨G,1,none⟩=some (C (some ⟨gp,0,none⟩) k cP):=HS4.out.bx.c 1 rfl;have e0:(0:Int)<(k:Int):=by omega
           have e0n:0<k:=by omega
           go_upto_region 23 with (fail)
           refine zR 6 (fun w'=>w'.cell? ⟨G,1,none⟩=some (C (some ⟨gp,0,none⟩) k cP)) ?_;refine zS 3 [(0,105),(1,106),(2,107)] hS ?_;iterate 3 refine zT ?_
           refine zN (zO 3 (fun K hK=>?_));go_simp;refine (am p 3 _ (HS4.out.tp.ext (zE _).drew) (by omega)).mono ?_;rintro e w5 ⟨v5,rfl,⟨x,rfl,hx1,hx2⟩,HT5,HX5⟩;have HS5:=bx (HS4.out.step hlt ((XT.drew (XT.refl _ _)).trans HX5) HT5);clear HT5 HX5 hS;have hS:w5.cell? ⟨G,1,none⟩=some (C (some ⟨gp,0,none⟩) k cP):=HS5.out.bx.c 1 rfl;refine hK.out _ _ (fun _=>hS) ?_;clear hK K;try simp only[kA]
           refine zO 4 (fun K hK=>?_);go_simp;refine hK.out _ _ (fun _=>hS) ?_;clear hK K;try simp only[kA]
           refine zO 5 (fun K hK=>?_);go_simp;refine hK.out _ _ (fun _=>hS) ?_;clear hK K;try simp only[kA]
           have y1:w5.cell? ⟨gp,1,none⟩=some (.int .i64 (ys[0]'hl0).1.var):=by have ho:=HS5.out.oP.own;rw[HG.out.1]at ho;exact (ho.cellAt 1 (by omega)).trans (Ei hl0)
           have yf:w5.frozen? ⟨gp,1,none⟩=false:=by have ho:=HS5.out.oP.own;rw[HG.out.1]at ho;exact ho.frozenAt 1
           generalize hyv:(ys[0]'hl0).1.var=yv at y1;clear hyv;refine zO 6 (fun K hK=>?_);go_simp;refine hK.out _ _ (fun h=>absurd rfl h) ?_;clear hK K;refine zD ?_;have HS6:Bx (aH p w (w5.setCell ⟨gp,1,none⟩ (.int .i64 x)) G num (C (some ⟨gp,0,none⟩) k cP) (C AB k cB) (C AX m cX) (C (some ⟨gp,0,none⟩) k cP) (C AB k cB) (C AX m cX) (ys.set 0 (⟨(ys[0]'hl0).1.code,x,(ys[0]'hl0).1.ps⟩,(ys[0]'hl0).2)) bs xs):=⟨by have h5:=HS5.out;have hk:=HG.out.1;rw[<-hk]at h5⊢;exact aH.setP (k:=0) (o:=1) h5 hlt (zV hl0) (by omega) rfl rfl rfl⟩
           go_wp2_with fail;go_meet
           exact⟨⟨_,_,_,_,_,_,_,_,_,_,_,_,_,HS6.out,kB ⟨by omega,by omega⟩ ⟨by have:=HW.out.1.1;simp;omega,fun y hy=>by rcases uW hy with hy|rfl;exact HW.out.1.2 y hy;have:=HW.out.1.2 _ (xC hl0);exact⟨this.1,⟨by simp only;omega,by simp only;omega⟩,this.2.2⟩⟩ ⟨by have:=HW.out.2.1.1;omega,HW.out.2.1.2⟩ ⟨by have:=HW.out.2.2.1;omega,HW.out.2.2.2⟩,fun h=>by omega⟩⟩
          ·skip
           have k0:(r4==0)=false:=beq_eq_false_iff_ne.2 c0;have k1:(r4==1)=false:=beq_eq_false_iff_ne.2 c1;have k2:(r4==2)=false:=beq_eq_false_iff_ne.2 c2;have k3:(r4==3)=false:=beq_eq_false_iff_ne.2 c3;have q1:=HS4.out.bx.c 1 rfl;have qf:=HS4.out.bx.froz 1;have HS6:Bx (aH p w (w4.setCell ⟨G,1,none⟩ (C none 0 0)) G num (C none 0 0) (C AB k cB) (C AX m cX) (C none 0 0) (C AB k cB) (C AX m cX) [] bs xs):=⟨HS4.out.dropP.set hlt rfl⟩
           go_wp2_with fail;go_meet
           exact⟨⟨_,_,_,_,_,_,_,_,_,_,_,_,_,HS6.out,kB ⟨by omega,by omega⟩ ⟨by simp,fun y hy=>by simp at hy⟩ ⟨by have:=HW.out.2.1.1;omega,HW.out.2.1.2⟩ ⟨by have:=HW.out.2.2.1;omega,HW.out.2.2.2⟩,fun h=>by omega⟩⟩
     case rest =>
     obtain⟨num,AP,nP,cP,AB,nB,cB,AX,nX,cX,ys,bs,xs,h9,hwf,hok⟩:=hcut.out;have HS9:Bx (aH p w wc G num (C AP nP cP) (C AB nB cB) (C AX nX cX) (C AP nP cP) (C AB nB cB) (C AX nX cX) ys bs xs):=⟨h9⟩
     clear h9 hcut HS3;obtain⟨g0,g1,g2,g3⟩:=(HS9.out.bx).p4 rfl;obtain⟨z0,z1,z2,z3⟩:=(HS9.out.r0).p4 rfl;have f0:=(HS9.out.r0).froz;have f1:=f0;have f2:=f0;have f3:=f0;go_wp2_with fail;refine bodyPost_ret (v:=.agg #[.int .i64 num,(C AP nP cP),(C AB nB cB),(C AX nX cX)]) (by simp[results,results7,go_sem,g0,g1,g2,g3,z0,z1,z2,z3]) rfl ?_;obtain⟨a1,a2,a3⟩:=HS9.out.fin hlt (.int .i64 num) (C AP nP cP) (C AB nB cB) (C AX nX cX);exact⟨_,rfl,⟨_,a1,hwf,hok⟩,a2,a3⟩
end Go.Proofs.YtpaidaphacoblaaGreatDoor

