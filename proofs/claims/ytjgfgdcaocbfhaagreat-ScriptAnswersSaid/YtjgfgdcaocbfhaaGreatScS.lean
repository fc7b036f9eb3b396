import Derived.Test.YtjgfgdcaocbfhaaGreatScA
import Derived.Laws.Shifts
set_option linter.all false
set_option maxRecDepth 100000
set_option maxHeartbeats 0
namespace Go.Proofs.YtjgfgdcaocbfhaaGreat
open Go.RowKit _root_.Go.Proofs.Tryz
variable {p:Nat}
theorem FA(v:Value)(xs:List dF)(c:Int)(w:World)(h:d7 p w v xs)(hm:j8 xs (fun y=>aR y.cand c))(hn:xs.length≤1000000000) :
  Calls prog 82 #[v,.int .i64 c,.func (.func 83) #[] #[]] w fun e w'=>(∃(i:Nat) (b:Bool),e=.returned (.tuple #[.int .i64 (i:Int),.bool b])∧jz xs (fun y=>aR y.cand c) i b)∧ab w w':=by
 obtain⟨A,n,c0,rfl,hnc,hcc,hnn,HL⟩:=h.open_;have HV:Bx (d7 p w (.slice A n c0) xs):=⟨h⟩
 have HM:Bx (j8 xs (fun y=>aR y.cand c)):=⟨hm⟩
 have hn3:n≤1000000000:=by have:=HL.out;omega
 clear h hm hn;have HF:Bx (ae w w []):=⟨ae.start w⟩
 go_enter func82,ntmps82
 go_wp2_with fail;go_loopw [9,10] (fun s9 s10 wr=>∃lo hi:Nat,s9=.int .i64 lo∧s10=.int .i64 hi∧lo≤hi∧hi≤n∧Bx (ae w wr []∧nw xs (fun y=>aR y.cand c) lo hi)) (fun s9 s10 _=>(intOf s10).toNat-(intOf s9).toNat)
 case atStart=>exact⟨0,n,rfl,rfl,by omega,by omega,⟨⟨HF.out,by have:=nw.start xs (fun y=>aR y.cand c);rw[HL.out]at this;exact this⟩⟩⟩
 case round =>
  obtain⟨lo,hi,rfl,rfl,hlh,hhn,HR⟩:=hrel;have HFr:Bx (ae w wr []):=⟨HR.out.1⟩
  have HB:Bx (nw xs (fun y=>aR y.cand c) lo hi):=⟨HR.out.2⟩
  clear HR HF;by_cases hlt:lo<hi
  ·obtain⟨m,hm⟩:=nm ((lo+hi)/2:Nat);have hm1:lo≤m:=by omega
   have hm2:m<hi:=by omega
   have hmn:m<n:=by omega
   have hdiv:((lo:Int)+(hi:Int))/2=(m:Int):=by omega
   clear hm;obtain⟨b,off,_,_,rfl,-⟩:=HV.out.at_ (show m<n by omega);obtain⟨cs,⟨xa,xb,xd⟩,-,hc0,⟨hcs,-⟩,HX⟩:=(HV.out.ext (iK.stab p) HFr.out.xt).cell_ (show m<n by omega);have x0:=hc0 0 (.int .i64 xa) (by rw[hcs];rfl);have x1:=hc0 1 (.int .i64 xb) (by rw[hcs];rfl);have x2:=hc0 2 (.int .i64 xd) (by rw[hcs];rfl);rw[yP]at x0;clear hc0 hcs;go_upto_region 5 with (fail)
   clear hdiv;go_wp2_with (go_at_call 83;refine (tC xa xb xd c _).mono ?_;rintro e w3 ⟨rfl,hx3⟩;rcases aT xa c with ⟨h1,e1⟩|⟨h1,e1⟩|⟨h1,e1⟩<;>rw[e1])
   ·have HFN:Bx (ae w w3 []):=⟨HFr.out.ext hx3⟩
    have HE:=zZ e1;have HB2:=zZ (HB.out.up HM.out hm2 HX.out (show aR xa c<0 by rw[HE.out];decide));clear e1 h1 HX HFr HB hx3 x0 x1 x2;go_wp2_with fail;go_roundw
    case rel=>exact⟨m+1,hi,by go_num,rfl,by omega,by omega,⟨⟨HFN.out,HB2.out⟩⟩⟩
    case measure=>simp[intOf];omega
   ·have HFN:Bx (ae w w3 []):=⟨HFr.out.ext hx3⟩
    have HE:=zZ e1;have HB2:=zZ (HB.out.down HM.out hm1 hm2 HX.out (show 0≤aR xa c by rw[HE.out];decide));clear e1 h1 HX HFr HB hx3 x0 x1 x2;go_wp2_with fail;go_roundw
    case rel=>exact⟨lo,m,rfl,rfl,by omega,by omega,⟨⟨HFN.out,HB2.out⟩⟩⟩
    case measure=>simp[intOf];omega
   ·have HFN:Bx (ae w w3 []):=⟨HFr.out.ext hx3⟩
    have HE:=zZ e1;have HB2:=zZ (HB.out.down HM.out hm1 hm2 HX.out (show 0≤aR xa c by rw[HE.out];decide));clear e1 h1 HX HFr HB hx3 x0 x1 x2;go_wp2_with fail;go_roundw
    case rel=>exact⟨lo,m,rfl,rfl,by omega,by omega,⟨⟨HFN.out,HB2.out⟩⟩⟩
    case measure=>simp[intOf];omega
  ·obtain rfl:lo=hi:=by omega
   by_cases hln:lo<n
   ·obtain⟨b,off,_,_,rfl,-⟩:=HV.out.at_ (show lo<n by omega);obtain⟨cs,⟨xa,xb,xd⟩,-,hc0,⟨hcs,-⟩,HX⟩:=(HV.out.ext (iK.stab p) HFr.out.xt).cell_ (show lo<n by omega);have x0:=hc0 0 (.int .i64 xa) (by rw[hcs];rfl);have x1:=hc0 1 (.int .i64 xb) (by rw[hcs];rfl);have x2:=hc0 2 (.int .i64 xd) (by rw[hcs];rfl);rw[yP]at x0;clear hc0 hcs;go_wp2_with (go_at_call 83;refine (tC xa xb xd c _).mono ?_;rintro e w3 ⟨rfl,hx3⟩;rcases aT xa c with ⟨h1,e1⟩|⟨h1,e1⟩|⟨h1,e1⟩<;>rw[e1])
    ·have HFN:Bx (ae w w3 []):=⟨HFr.out.ext hx3⟩
     have HE:=zZ e1;have HFD:=zZ (HB.out.miss HM.out fun y hy=>by rw[HX.out]at hy;injection hy with hy;subst hy;show aR xa c≠0;rw[HE.out];decide);go_wp2_with fail;refine bodyPost_ret (v:=.tuple #[.int .i64 (lo:Int),.bool false]) (by simp[results,results82,go_sem]) rfl ⟨⟨lo,false,rfl,HFD.out⟩,HFN.out.xt⟩
    ·have HFN:Bx (ae w w3 []):=⟨HFr.out.ext hx3⟩
     have HE:=zZ e1;have HFD:=zZ (HB.out.hit HX.out HE.out);go_wp2_with fail;refine bodyPost_ret (v:=.tuple #[.int .i64 (lo:Int),.bool true]) (by simp[results,results82,go_sem]) rfl ⟨⟨lo,true,rfl,HFD.out⟩,HFN.out.xt⟩
    ·have HFN:Bx (ae w w3 []):=⟨HFr.out.ext hx3⟩
     have HE:=zZ e1;have HFD:=zZ (HB.out.miss HM.out fun y hy=>by rw[HX.out]at hy;injection hy with hy;subst hy;show aR xa c≠0;rw[HE.out];decide);go_wp2_with fail;refine bodyPost_ret (v:=.tuple #[.int .i64 (lo:Int),.bool false]) (by simp[results,results82,go_sem]) rfl ⟨⟨lo,false,rfl,HFD.out⟩,HFN.out.xt⟩
   ·obtain rfl:lo=n:=by omega
    have HFD:=zZ (HB.out.miss HM.out fun y hy=>by have:=(zY.1 hy).1;have:=HL.out;omega);go_wp2_with fail;refine bodyPost_ret (v:=.tuple #[.int .i64 (lo:Int),.bool false]) (by simp[results,results82,go_sem]) rfl ⟨⟨lo,false,rfl,HFD.out⟩,HFr.out.xt⟩
theorem Fm(v:Value)(xs:List dF)(c:Int)(w:World)(h:d7 p w v xs)(hm:j8 xs (fun y=>aR y.cand c))(hn:xs.length≤1000000000) :
  Calls prog 82 #[v,.int .i64 c,.func (.func 124) #[] #[]] w fun e w'=>(∃(i:Nat) (b:Bool),e=.returned (.tuple #[.int .i64 (i:Int),.bool b])∧jz xs (fun y=>aR y.cand c) i b)∧ab w w':=by
 obtain⟨A,n,c0,rfl,hnc,hcc,hnn,HL⟩:=h.open_;have HV:Bx (d7 p w (.slice A n c0) xs):=⟨h⟩
 have HM:Bx (j8 xs (fun y=>aR y.cand c)):=⟨hm⟩
 have hn3:n≤1000000000:=by have:=HL.out;omega
 clear h hm hn;have HF:Bx (ae w w []):=⟨ae.start w⟩
 go_enter func82,ntmps82
 go_wp2_with fail;go_loopw [9,10] (fun s9 s10 wr=>∃lo hi:Nat,s9=.int .i64 lo∧s10=.int .i64 hi∧lo≤hi∧hi≤n∧Bx (ae w wr []∧nw xs (fun y=>aR y.cand c) lo hi)) (fun s9 s10 _=>(intOf s10).toNat-(intOf s9).toNat)
 case atStart=>exact⟨0,n,rfl,rfl,by omega,by omega,⟨⟨HF.out,by have:=nw.start xs (fun y=>aR y.cand c);rw[HL.out]at this;exact this⟩⟩⟩
 case round =>
  obtain⟨lo,hi,rfl,rfl,hlh,hhn,HR⟩:=hrel;have HFr:Bx (ae w wr []):=⟨HR.out.1⟩
  have HB:Bx (nw xs (fun y=>aR y.cand c) lo hi):=⟨HR.out.2⟩
  clear HR HF;by_cases hlt:lo<hi
  ·obtain⟨m,hm⟩:=nm ((lo+hi)/2:Nat);have hm1:lo≤m:=by omega
   have hm2:m<hi:=by omega
   have hmn:m<n:=by omega
   have hdiv:((lo:Int)+(hi:Int))/2=(m:Int):=by omega
   clear hm;obtain⟨b,off,_,_,rfl,-⟩:=HV.out.at_ (show m<n by omega);obtain⟨cs,⟨xa,xb,xd⟩,-,hc0,⟨hcs,-⟩,HX⟩:=(HV.out.ext (iK.stab p) HFr.out.xt).cell_ (show m<n by omega);have x0:=hc0 0 (.int .i64 xa) (by rw[hcs];rfl);have x1:=hc0 1 (.int .i64 xb) (by rw[hcs];rfl);have x2:=hc0 2 (.int .i64 xd) (by rw[hcs];rfl);rw[yP]at x0;clear hc0 hcs;go_upto_region 5 with (fail)
   clear hdiv;go_wp2_with (go_at_call 124;refine (uH xa xb xd c _).mono ?_;rintro e w3 ⟨rfl,hx3⟩;rcases aT xa c with ⟨h1,e1⟩|⟨h1,e1⟩|⟨h1,e1⟩<;>rw[e1])
   ·have HFN:Bx (ae w w3 []):=⟨HFr.out.ext hx3⟩
    have HE:=zZ e1;have HB2:=zZ (HB.out.up HM.out hm2 HX.out (show aR xa c<0 by rw[HE.out];decide));clear e1 h1 HX HFr HB hx3 x0 x1 x2;go_wp2_with fail;go_roundw
    case rel=>exact⟨m+1,hi,by go_num,rfl,by omega,by omega,⟨⟨HFN.out,HB2.out⟩⟩⟩
    case measure=>simp[intOf];omega
   ·have HFN:Bx (ae w w3 []):=⟨HFr.out.ext hx3⟩
    have HE:=zZ e1;have HB2:=zZ (HB.out.down HM.out hm1 hm2 HX.out (show 0≤aR xa c by rw[HE.out];decide));clear e1 h1 HX HFr HB hx3 x0 x1 x2;go_wp2_with fail;go_roundw
    case rel=>exact⟨lo,m,rfl,rfl,by omega,by omega,⟨⟨HFN.out,HB2.out⟩⟩⟩
    case measure=>simp[intOf];omega
   ·have HFN:Bx (ae w w3 []):=⟨HFr.out.ext hx3⟩
    have HE:=zZ e1;have HB2:=zZ (HB.out.down HM.out hm1 hm2 HX.out (show 0≤aR xa c by rw[HE.out];decide));clear e1 h1 HX HFr HB hx3 x0 x1 x2;go_wp2_with fail;go_roundw
    case rel=>exact⟨lo,m,rfl,rfl,by omega,by omega,⟨⟨HFN.out,HB2.out⟩⟩⟩
    case measure=>simp[intOf];omega
  ·obtain rfl:lo=hi:=by omega
   by_cases hln:lo<n
   ·obtain⟨b,off,_,_,rfl,-⟩:=HV.out.at_ (show lo<n by omega);obtain⟨cs,⟨xa,xb,xd⟩,-,hc0,⟨hcs,-⟩,HX⟩:=(HV.out.ext (iK.stab p) HFr.out.xt).cell_ (show lo<n by omega);have x0:=hc0 0 (.int .i64 xa) (by rw[hcs];rfl);have x1:=hc0 1 (.int .i64 xb) (by rw[hcs];rfl);have x2:=hc0 2 (.int .i64 xd) (by rw[hcs];rfl);rw[yP]at x0;clear hc0 hcs;go_wp2_with (go_at_call 124;refine (uH xa xb xd c _).mono ?_;rintro e w3 ⟨rfl,hx3⟩;rcases aT xa c with ⟨h1,e1⟩|⟨h1,e1⟩|⟨h1,e1⟩<;>rw[e1])
    ·have HFN:Bx (ae w w3 []):=⟨HFr.out.ext hx3⟩
     have HE:=zZ e1;have HFD:=zZ (HB.out.miss HM.out fun y hy=>by rw[HX.out]at hy;injection hy with hy;subst hy;show aR xa c≠0;rw[HE.out];decide);go_wp2_with fail;refine bodyPost_ret (v:=.tuple #[.int .i64 (lo:Int),.bool false]) (by simp[results,results82,go_sem]) rfl ⟨⟨lo,false,rfl,HFD.out⟩,HFN.out.xt⟩
    ·have HFN:Bx (ae w w3 []):=⟨HFr.out.ext hx3⟩
     have HE:=zZ e1;have HFD:=zZ (HB.out.hit HX.out HE.out);go_wp2_with fail;refine bodyPost_ret (v:=.tuple #[.int .i64 (lo:Int),.bool true]) (by simp[results,results82,go_sem]) rfl ⟨⟨lo,true,rfl,HFD.out⟩,HFN.out.xt⟩
    ·have HFN:Bx (ae w w3 []):=⟨HFr.out.ext hx3⟩
     have HE:=zZ e1;have HFD:=zZ (HB.out.miss HM.out fun y hy=>by rw[HX.out]at hy;injection hy with hy;subst hy;show aR xa c≠0;rw[HE.out];decide);go_wp2_with fail;refine bodyPost_ret (v:=.tuple #[.int .i64 (lo:Int),.bool false]) (by simp[results,results82,go_sem]) rfl ⟨⟨lo,false,rfl,HFD.out⟩,HFN.out.xt⟩
   ·obtain rfl:lo=n:=by omega
    have HFD:=zZ (HB.out.miss HM.out fun y hy=>by have:=(zY.1 hy).1;have:=HL.out;omega);go_wp2_with fail;refine bodyPost_ret (v:=.tuple #[.int .i64 (lo:Int),.bool false]) (by simp[results,results82,go_sem]) rfl ⟨⟨lo,false,rfl,HFD.out⟩,HFr.out.xt⟩
theorem FL(v:Value)(xs:List Pg)(c g:Int)(w:World)(h:ke p w v xs)(hm:j8 xs (fun y=>dT y.cand y.page c g))(hn:xs.length≤1000000000) :
  Calls prog 78 #[v,.agg #[.int .i64 c,.int .i64 g],.func (.func 79) #[] #[]] w fun e w'=>(∃(i:Nat) (b:Bool),e=.returned (.tuple #[.int .i64 (i:Int),.bool b])∧jz xs (fun y=>dT y.cand y.page c g) i b)∧ab w w':=by
 obtain⟨A,n,c0,rfl,hnc,hcc,hnn,HL⟩:=h.open_;have HV:Bx (ke p w (.slice A n c0) xs):=⟨h⟩
 have HM:Bx (j8 xs (fun y=>dT y.cand y.page c g)):=⟨hm⟩
 have hn3:n≤1000000000:=by have:=HL.out;omega
 clear h hm hn;have HF:Bx (ae w (w.alloc (.cells #[.int .i64 c,.int .i64 g] 144)) [(w.heap.size,#[.int .i64 c,.int .i64 g],144)]):=⟨(ae.start w).push _ _ rfl⟩
 go_enter func78,ntmps78
 go_upto_region 1 with (fail)
 obtain⟨w1,hw1⟩:=nm ((w.alloc (.cells #[.int .i64 c,.int .i64 g] 144)):World);rw[←hw1]at HF;rw[←hw1];clear hw1;go_wp2_with fail;go_loopw [9,10] (fun s9 s10 wr=>∃lo hi:Nat,s9=.int .i64 lo∧s10=.int .i64 hi∧lo≤hi∧hi≤n∧Bx (ae w wr [(w.heap.size,#[.int .i64 c,.int .i64 g],144)]∧nw xs (fun y=>dT y.cand y.page c g) lo hi)) (fun s9 s10 _=>(intOf s10).toNat-(intOf s9).toNat)
 case atStart=>exact⟨0,n,rfl,rfl,by omega,by omega,⟨⟨HF.out,by have:=nw.start xs (fun y=>dT y.cand y.page c g);rw[HL.out]at this;exact this⟩⟩⟩
 case round =>
  obtain⟨lo,hi,rfl,rfl,hlh,hhn,HR⟩:=hrel;have HFr:Bx (ae w wr [(w.heap.size,#[.int .i64 c,.int .i64 g],144)]):=⟨HR.out.1⟩
  have HB:Bx (nw xs (fun y=>dT y.cand y.page c g) lo hi):=⟨HR.out.2⟩
  clear HR HF;by_cases hlt:lo<hi
  ·obtain⟨m,hm⟩:=nm ((lo+hi)/2:Nat);have hm1:lo≤m:=by omega
   have hm2:m<hi:=by omega
   have hmn:m<n:=by omega
   have hdiv:((lo:Int)+(hi:Int))/2=(m:Int):=by omega
   clear hm;obtain⟨b,off,_,_,rfl,-⟩:=HV.out.at_ (show m<n by omega);obtain⟨cs,⟨xc,xg,xt,xch,⟨xs,xq⟩⟩,-,hc0,⟨ux,hcs,hix,-⟩,HX⟩:=(HV.out.ext (j3.stab p) HFr.out.xt).cell_ (show m<n by omega);obtain⟨xA,xn,xcc,rfl,-⟩:=hix.open_;clear hix;have x0:=hc0 0 (.int .i64 xc) (by rw[hcs];rfl);have x1:=hc0 1 (.int .i64 xg) (by rw[hcs];rfl);have x2:=hc0 2 (.int .i64 xt) (by rw[hcs];rfl);have x3:=hc0 3 (.slice xA xn xcc) (by rw[hcs];rfl);have x4:=hc0 4 (.int .i64 xs) (by rw[hcs];rfl);have x5:=hc0 5 (.int .i64 xq) (by rw[hcs];rfl);rw[yP]at x0;clear hc0 hcs;obtain⟨k0,k1⟩:=(HFr.out.at_ 0 rfl).p2 rfl;go_upto_region 5 with (fail)
   clear hdiv;refine zQ 99 fun wd kS=>?_;refine zS 6 [(0,24),(1,25),(2,26),(3,27),(4,28),(5,29)] kS ?_;iterate 6 (apply zT;exact⟨rfl,rfl⟩;(·intro wk hk;have:=hk.cell x0;have:=hk.cell x1;have:=hk.cell x2;have:=hk.cell x3;have:=hk.cell x4;have:=hk.cell x5;have:=hk.cell k0;have:=hk.cell k1;go_simp;try with_reducible rfl);simp only[kA];exact rfl)
   refine zN (zO 6 (fun K hK=>?_));go_simp;refine (ul xc xg xt xs xq c g xA xn xcc _).mono ?_;rintro e w3 ⟨rfl,hx3⟩;have kS2:ab wr w3:=kS.trans hx3;rcases bY xc xg c g with ⟨h1,e1⟩|⟨h1,e1⟩|⟨h1,e1⟩
   ·have HFN:Bx (ae w w3 [(w.heap.size,#[.int .i64 c,.int .i64 g],144)]):=⟨HFr.out.ext (kS2)⟩
    have HE:=zZ e1;rw[e1];refine hK.out _ _ (fun _=>kS2) ?_;clear hK K;try simp only[kA]
    refine zS 1 [(7,31)] kS2 ?_;(apply zT;exact⟨rfl,rfl⟩;(·intro wk hk;have:=hk.cell x0;have:=hk.cell x1;have:=hk.cell x2;have:=hk.cell x3;have:=hk.cell x4;have:=hk.cell x5;have:=hk.cell k0;have:=hk.cell k1;go_simp;try with_reducible rfl);simp only[kA];exact rfl);refine zN (zD ?_);have HB2:=zZ (HB.out.up HM.out hm2 HX.out (show dT xc xg c g<0 by rw[HE.out];decide));clear e1 h1 HX HFr HB hx3 x0 x1 x2 x3 x4 x5 k0 k1 kS2 kS;go_wp2_with fail;go_roundw
    case rel=>exact⟨m+1,hi,by go_num,rfl,by omega,by omega,⟨⟨HFN.out,HB2.out⟩⟩⟩
    case measure=>simp[intOf];omega
   ·have HFN:Bx (ae w w3 [(w.heap.size,#[.int .i64 c,.int .i64 g],144)]):=⟨HFr.out.ext (kS2)⟩
    have HE:=zZ e1;rw[e1];refine hK.out _ _ (fun _=>kS2) ?_;clear hK K;try simp only[kA]
    refine zS 1 [(7,31)] kS2 ?_;(apply zT;exact⟨rfl,rfl⟩;(·intro wk hk;have:=hk.cell x0;have:=hk.cell x1;have:=hk.cell x2;have:=hk.cell x3;have:=hk.cell x4;have:=hk.cell x5;have:=hk.cell k0;have:=hk.cell k1;go_simp;try with_reducible rfl);simp only[kA];exact rfl);refine zN (zD ?_);have HB2:=zZ (HB.out.down HM.out hm1 hm2 HX.out (show 0≤dT xc xg c g by rw[HE.out];decide));clear e1 h1 HX HFr HB hx3 x0 x1 x2 x3 x4 x5 k0 k1 kS2 kS;go_wp2_with fail;go_roundw
    case rel=>exact⟨lo,m,rfl,rfl,by omega,by omega,⟨⟨HFN.out,HB2.out⟩⟩⟩
    case measure=>simp[intOf];omega
   ·have HFN:Bx (ae w w3 [(w.heap.size,#[.int .i64 c,.int .i64 g],144)]):=⟨HFr.out.ext (kS2)⟩
    have HE:=zZ e1;rw[e1];refine hK.out _ _ (fun _=>kS2) ?_;clear hK K;try simp only[kA]
    refine zS 1 [(7,31)] kS2 ?_;(apply zT;exact⟨rfl,rfl⟩;(·intro wk hk;have:=hk.cell x0;have:=hk.cell x1;have:=hk.cell x2;have:=hk.cell x3;have:=hk.cell x4;have:=hk.cell x5;have:=hk.cell k0;have:=hk.cell k1;go_simp;try with_reducible rfl);simp only[kA];exact rfl);refine zN (zD ?_);have HB2:=zZ (HB.out.down HM.out hm1 hm2 HX.out (show 0≤dT xc xg c g by rw[HE.out];decide));clear e1 h1 HX HFr HB hx3 x0 x1 x2 x3 x4 x5 k0 k1 kS2 kS;go_wp2_with fail;go_roundw
    case rel=>exact⟨lo,m,rfl,rfl,by omega,by omega,⟨⟨HFN.out,HB2.out⟩⟩⟩
    case measure=>simp[intOf];omega
  ·obtain rfl:lo=hi:=by omega
   by_cases hln:lo<n
   ·obtain⟨b,off,_,_,rfl,-⟩:=HV.out.at_ (show lo<n by omega);obtain⟨cs,⟨xc,xg,xt,xch,⟨xs,xq⟩⟩,-,hc0,⟨ux,hcs,hix,-⟩,HX⟩:=(HV.out.ext (j3.stab p) HFr.out.xt).cell_ (show lo<n by omega);obtain⟨xA,xn,xcc,rfl,-⟩:=hix.open_;clear hix;have x0:=hc0 0 (.int .i64 xc) (by rw[hcs];rfl);have x1:=hc0 1 (.int .i64 xg) (by rw[hcs];rfl);have x2:=hc0 2 (.int .i64 xt) (by rw[hcs];rfl);have x3:=hc0 3 (.slice xA xn xcc) (by rw[hcs];rfl);have x4:=hc0 4 (.int .i64 xs) (by rw[hcs];rfl);have x5:=hc0 5 (.int .i64 xq) (by rw[hcs];rfl);rw[yP]at x0;clear hc0 hcs;obtain⟨k0,k1⟩:=(HFr.out.at_ 0 rfl).p2 rfl;go_upto_region 8 with (fail)
    refine zQ 99 fun wd kS=>?_;refine zS 11 [(0,35),(1,36),(2,37),(3,38),(4,39),(5,40),(6,41),(7,42),(8,43),(9,44),(10,45)] kS ?_;iterate 11 (apply zT;exact⟨rfl,rfl⟩;(·intro wk hk;have:=hk.cell x0;have:=hk.cell x1;have:=hk.cell x2;have:=hk.cell x3;have:=hk.cell x4;have:=hk.cell x5;have:=hk.cell k0;have:=hk.cell k1;go_simp;try with_reducible rfl);simp only[kA];exact rfl)
    refine zN (zO 11 (fun K hK=>?_));go_simp;refine (ul xc xg xt xs xq c g xA xn xcc _).mono ?_;rintro e w3 ⟨rfl,hx3⟩;have kS2:ab wr w3:=kS.trans hx3;rcases bY xc xg c g with ⟨h1,e1⟩|⟨h1,e1⟩|⟨h1,e1⟩
    ·have HFN:Bx (ae w w3 [(w.heap.size,#[.int .i64 c,.int .i64 g],144)]):=⟨HFr.out.ext (kS2)⟩
     have HE:=zZ e1;rw[e1];refine hK.out _ _ (fun _=>kS2) ?_;clear hK K;try simp only[kA]
     refine zS 4 [(12,47),(13,48),(14,6),(15,7)] kS2 ?_;iterate 4 (apply zT;exact⟨rfl,rfl⟩;(·intro wk hk;have:=hk.cell x0;have:=hk.cell x1;have:=hk.cell x2;have:=hk.cell x3;have:=hk.cell x4;have:=hk.cell x5;have:=hk.cell k0;have:=hk.cell k1;go_simp;try with_reducible rfl);simp only[kA];exact rfl)
     refine zN (zD ?_);have HFD:=zZ (HB.out.miss HM.out fun y hy=>by rw[HX.out]at hy;injection hy with hy;subst hy;show dT xc xg c g≠0;rw[HE.out];decide);go_wp2_with fail;refine bodyPost_ret (v:=.tuple #[.int .i64 (lo:Int),.bool false]) (by simp[results,results78,go_sem]) rfl ⟨⟨lo,false,rfl,HFD.out⟩,HFN.out.xt⟩
    ·have HFN:Bx (ae w w3 [(w.heap.size,#[.int .i64 c,.int .i64 g],144)]):=⟨HFr.out.ext (kS2)⟩
     have HE:=zZ e1;rw[e1];refine hK.out _ _ (fun _=>kS2) ?_;clear hK K;try simp only[kA]
     refine zS 4 [(12,47),(13,48),(14,6),(15,7)] kS2 ?_;iterate 4 (apply zT;exact⟨rfl,rfl⟩;(·intro wk hk;have:=hk.cell x0;have:=hk.cell x1;have:=hk.cell x2;have:=hk.cell x3;have:=hk.cell x4;have:=hk.cell x5;have:=hk.cell k0;have:=hk.cell k1;go_simp;try with_reducible rfl);simp only[kA];exact rfl)
     refine zN (zD ?_);have HFD:=zZ (HB.out.hit HX.out HE.out);go_wp2_with fail;refine bodyPost_ret (v:=.tuple #[.int .i64 (lo:Int),.bool true]) (by simp[results,results78,go_sem]) rfl ⟨⟨lo,true,rfl,HFD.out⟩,HFN.out.xt⟩
    ·have HFN:Bx (ae w w3 [(w.heap.size,#[.int .i64 c,.int .i64 g],144)]):=⟨HFr.out.ext (kS2)⟩
     have HE:=zZ e1;rw[e1];refine hK.out _ _ (fun _=>kS2) ?_;clear hK K;try simp only[kA]
     refine zS 4 [(12,47),(13,48),(14,6),(15,7)] kS2 ?_;iterate 4 (apply zT;exact⟨rfl,rfl⟩;(·intro wk hk;have:=hk.cell x0;have:=hk.cell x1;have:=hk.cell x2;have:=hk.cell x3;have:=hk.cell x4;have:=hk.cell x5;have:=hk.cell k0;have:=hk.cell k1;go_simp;try with_reducible rfl);simp only[kA];exact rfl)
     refine zN (zD ?_);have HFD:=zZ (HB.out.miss HM.out fun y hy=>by rw[HX.out]at hy;injection hy with hy;subst hy;show dT xc xg c g≠0;rw[HE.out];decide);go_wp2_with fail;refine bodyPost_ret (v:=.tuple #[.int .i64 (lo:Int),.bool false]) (by simp[results,results78,go_sem]) rfl ⟨⟨lo,false,rfl,HFD.out⟩,HFN.out.xt⟩
   ·obtain rfl:lo=n:=by omega
    have HFD:=zZ (HB.out.miss HM.out fun y hy=>by have:=(zY.1 hy).1;have:=HL.out;omega);have k0:=(HFr.out.at_ 0 rfl).c 0 rfl;go_upto_region 8 with (fail)
    refine zQ 99 fun wd kS=>?_;refine zS 16 [(0,35),(1,36),(2,37),(3,38),(4,39),(5,40),(6,41),(7,42),(8,43),(9,44),(10,45),(11,46),(12,47),(13,48),(14,6),(15,7)] kS ?_;iterate 5 (apply zT;exact⟨rfl,rfl⟩;(·intro wk hk;have:=hk.cell k0;go_simp;try with_reducible rfl);simp only[kA];exact rfl)
    iterate 8 (apply zK;exact⟨rfl,rfl⟩;simp only[kA];exact rfl)
    iterate 3 (apply zT;exact⟨rfl,rfl⟩;(·intro wk hk;have:=hk.cell k0;go_simp;try with_reducible rfl);simp only[kA];exact rfl)
    refine zN (zD ?_);go_wp2_with fail;refine bodyPost_ret (v:=.tuple #[.int .i64 (lo:Int),.bool false]) (by simp[results,results78,go_sem]) rfl ⟨⟨lo,false,rfl,HFD.out⟩,HFr.out.xt.trans kS⟩
theorem Bu(v:Value)(xs:List aY)(c g:Int)(w:World)(h:eF p w v xs)(hm:j8 xs (fun y=>dT y.scan.s y.scan.q c g))(hn:xs.length≤1000000000) :
  Calls prog 66 #[v,.agg #[.int .i64 c,.int .i64 g],.func (.func 67) #[] #[]] w fun e w'=>(∃(i:Nat) (b:Bool),e=.returned (.tuple #[.int .i64 (i:Int),.bool b])∧jz xs (fun y=>dT y.scan.s y.scan.q c g) i b)∧ab w w':=by
 obtain⟨A,n,c0,rfl,hnc,hcc,hnn,HL⟩:=h.open_;have HV:Bx (eF p w (.slice A n c0) xs):=⟨h⟩
 have HM:Bx (j8 xs (fun y=>dT y.scan.s y.scan.q c g)):=⟨hm⟩
 have hn3:n≤1000000000:=by have:=HL.out;omega
 clear h hm hn;have HF:Bx (ae w (w.alloc (.cells #[.int .i64 c,.int .i64 g] 71)) [(w.heap.size,#[.int .i64 c,.int .i64 g],71)]):=⟨(ae.start w).push _ _ rfl⟩
 go_enter func66,ntmps66
 go_upto_region 1 with (fail)
 obtain⟨w1,hw1⟩:=nm ((w.alloc (.cells #[.int .i64 c,.int .i64 g] 71)):World);rw[←hw1]at HF;rw[←hw1];clear hw1;go_wp2_with fail;go_loopw [9,10] (fun s9 s10 wr=>∃lo hi:Nat,s9=.int .i64 lo∧s10=.int .i64 hi∧lo≤hi∧hi≤n∧Bx (ae w wr [(w.heap.size,#[.int .i64 c,.int .i64 g],71)]∧nw xs (fun y=>dT y.scan.s y.scan.q c g) lo hi)) (fun s9 s10 _=>(intOf s10).toNat-(intOf s9).toNat)
 case atStart=>exact⟨0,n,rfl,rfl,by omega,by omega,⟨⟨HF.out,by have:=nw.start xs (fun y=>dT y.scan.s y.scan.q c g);rw[HL.out]at this;exact this⟩⟩⟩
 case round =>
  obtain⟨lo,hi,rfl,rfl,hlh,hhn,HR⟩:=hrel;have HFr:Bx (ae w wr [(w.heap.size,#[.int .i64 c,.int .i64 g],71)]):=⟨HR.out.1⟩
  have HB:Bx (nw xs (fun y=>dT y.scan.s y.scan.q c g) lo hi):=⟨HR.out.2⟩
  clear HR HF;by_cases hlt:lo<hi
  ·obtain⟨m,hm⟩:=nm ((lo+hi)/2:Nat);have hm1:lo≤m:=by omega
   have hm2:m<hi:=by omega
   have hmn:m<n:=by omega
   have hdiv:((lo:Int)+(hi:Int))/2=(m:Int):=by omega
   clear hm;obtain⟨b,off,_,_,rfl,-⟩:=HV.out.at_ (show m<n by omega);obtain⟨cs,⟨⟨xs,xq⟩,xt,⟨xa,xb,xc,xd⟩⟩,-,hc0,⟨hcs,-⟩,HX⟩:=(HV.out.ext (cQ.stab p) HFr.out.xt).cell_ (show m<n by omega);have x0:=hc0 0 (.int .i64 xs) (by rw[hcs];rfl);have x1:=hc0 1 (.int .i64 xq) (by rw[hcs];rfl);have x2:=hc0 2 (.int .i64 xt) (by rw[hcs];rfl);have x3:=hc0 3 (.int .i64 xa) (by rw[hcs];rfl);have x4:=hc0 4 (.int .i64 xb) (by rw[hcs];rfl);have x5:=hc0 5 (.int .i64 xc) (by rw[hcs];rfl);have x6:=hc0 6 (.int .i64 xd) (by rw[hcs];rfl);rw[yP]at x0;clear hc0 hcs;obtain⟨k0,k1⟩:=(HFr.out.at_ 0 rfl).p2 rfl;go_upto_region 5 with (fail)
   clear hdiv;refine zQ 99 fun wd kS=>?_;refine zS 6 [(0,24),(1,25),(2,26),(3,27),(4,28),(5,29)] kS ?_;iterate 6 (apply zT;exact⟨rfl,rfl⟩;(·intro wk hk;have:=hk.cell x0;have:=hk.cell x1;have:=hk.cell x2;have:=hk.cell x3;have:=hk.cell x4;have:=hk.cell x5;have:=hk.cell x6;have:=hk.cell k0;have:=hk.cell k1;go_simp;try with_reducible rfl);simp only[kA];exact rfl)
   refine zN (zO 6 (fun K hK=>?_));go_simp;refine (uD xs xq xt xa xb xc xd c g _).mono ?_;rintro e w3 ⟨rfl,hx3⟩;have kS2:ab wr w3:=kS.trans hx3;rcases bY xs xq c g with ⟨h1,e1⟩|⟨h1,e1⟩|⟨h1,e1⟩
   ·have HFN:Bx (ae w w3 [(w.heap.size,#[.int .i64 c,.int .i64 g],71)]):=⟨HFr.out.ext (kS2)⟩
    have HE:=zZ e1;rw[e1];refine hK.out _ _ (fun _=>kS2) ?_;clear hK K;try simp only[kA]
    refine zS 1 [(7,31)] kS2 ?_;(apply zT;exact⟨rfl,rfl⟩;(·intro wk hk;have:=hk.cell x0;have:=hk.cell x1;have:=hk.cell x2;have:=hk.cell x3;have:=hk.cell x4;have:=hk.cell x5;have:=hk.cell x6;have:=hk.cell k0;have:=hk.cell k1;go_simp;try with_reducible rfl);simp only[kA];exact rfl);refine zN (zD ?_);have HB2:=zZ (HB.out.up HM.out hm2 HX.out (show dT xs xq c g<0 by rw[HE.out];decide));clear e1 h1 HX HFr HB hx3 x0 x1 x2 x3 x4 x5 x6 k0 k1 kS2 kS;go_wp2_with fail;go_roundw
    case rel=>exact⟨m+1,hi,by go_num,rfl,by omega,by omega,⟨⟨HFN.out,HB2.out⟩⟩⟩
    case measure=>simp[intOf];omega
   ·have HFN:Bx (ae w w3 [(w.heap.size,#[.int .i64 c,.int .i64 g],71)]):=⟨HFr.out.ext (kS2)⟩
    have HE:=zZ e1;rw[e1];refine hK.out _ _ (fun _=>kS2) ?_;clear hK K;try simp only[kA]
    refine zS 1 [(7,31)] kS2 ?_;(apply zT;exact⟨rfl,rfl⟩;(·intro wk hk;have:=hk.cell x0;have:=hk.cell x1;have:=hk.cell x2;have:=hk.cell x3;have:=hk.cell x4;have:=hk.cell x5;have:=hk.cell x6;have:=hk.cell k0;have:=hk.cell k1;go_simp;try with_reducible rfl);simp only[kA];exact rfl);refine zN (zD ?_);have HB2:=zZ (HB.out.down HM.out hm1 hm2 HX.out (show 0≤dT xs xq c g by rw[HE.out];decide));clear e1 h1 HX HFr HB hx3 x0 x1 x2 x3 x4 x5 x6 k0 k1 kS2 kS;go_wp2_with fail;go_roundw
    case rel=>exact⟨lo,m,rfl,rfl,by omega,by omega,⟨⟨HFN.out,HB2.out⟩⟩⟩
    case measure=>simp[intOf];omega
   ·have HFN:Bx (ae w w3 [(w.heap.size,#[.int .i64 c,.int .i64 g],71)]):=⟨HFr.out.ext (kS2)⟩
    have HE:=zZ e1;rw[e1];refine hK.out _ _ (fun _=>kS2) ?_;clear hK K;try simp only[kA]
    refine zS 1 [(7,31)] kS2 ?_;(apply zT;exact⟨rfl,rfl⟩;(·intro wk hk;have:=hk.cell x0;have:=hk.cell x1;have:=hk.cell x2;have:=hk.cell x3;have:=hk.cell x4;have:=hk.cell x5;have:=hk.cell x6;have:=hk.cell k0;have:=hk.cell k1;go_simp;try with_reducible rfl);simp only[kA];exact rfl);refine zN (zD ?_);have HB2:=zZ (HB.out.down HM.out hm1 hm2 HX.out (show 0≤dT xs xq c g by rw[HE.out];decide));clear e1 h1 HX HFr HB hx3 x0 x1 x2 x3 x4 x5 x6 k0 k1 kS2 kS;go_wp2_with fail;go_roundw
    case rel=>exact⟨lo,m,rfl,rfl,by omega,by omega,⟨⟨HFN.out,HB2.out⟩⟩⟩
    case measure=>simp[intOf];omega
  ·obtain rfl:lo=hi:=by omega
   by_cases hln:lo<n
   ·obtain⟨b,off,_,_,rfl,-⟩:=HV.out.at_ (show lo<n by omega);obtain⟨cs,⟨⟨xs,xq⟩,xt,⟨xa,xb,xc,xd⟩⟩,-,hc0,⟨hcs,-⟩,HX⟩:=(HV.out.ext (cQ.stab p) HFr.out.xt).cell_ (show lo<n by omega);have x0:=hc0 0 (.int .i64 xs) (by rw[hcs];rfl);have x1:=hc0 1 (.int .i64 xq) (by rw[hcs];rfl);have x2:=hc0 2 (.int .i64 xt) (by rw[hcs];rfl);have x3:=hc0 3 (.int .i64 xa) (by rw[hcs];rfl);have x4:=hc0 4 (.int .i64 xb) (by rw[hcs];rfl);have x5:=hc0 5 (.int .i64 xc) (by rw[hcs];rfl);have x6:=hc0 6 (.int .i64 xd) (by rw[hcs];rfl);rw[yP]at x0;clear hc0 hcs;obtain⟨k0,k1⟩:=(HFr.out.at_ 0 rfl).p2 rfl;go_upto_region 8 with (fail)
    refine zQ 99 fun wd kS=>?_;refine zS 11 [(0,35),(1,36),(2,37),(3,38),(4,39),(5,40),(6,41),(7,42),(8,43),(9,44),(10,45)] kS ?_;iterate 11 (apply zT;exact⟨rfl,rfl⟩;(·intro wk hk;have:=hk.cell x0;have:=hk.cell x1;have:=hk.cell x2;have:=hk.cell x3;have:=hk.cell x4;have:=hk.cell x5;have:=hk.cell x6;have:=hk.cell k0;have:=hk.cell k1;go_simp;try with_reducible rfl);simp only[kA];exact rfl)
    refine zN (zO 11 (fun K hK=>?_));go_simp;refine (uD xs xq xt xa xb xc xd c g _).mono ?_;rintro e w3 ⟨rfl,hx3⟩;have kS2:ab wr w3:=kS.trans hx3;rcases bY xs xq c g with ⟨h1,e1⟩|⟨h1,e1⟩|⟨h1,e1⟩
    ·have HFN:Bx (ae w w3 [(w.heap.size,#[.int .i64 c,.int .i64 g],71)]):=⟨HFr.out.ext (kS2)⟩
     have HE:=zZ e1;rw[e1];refine hK.out _ _ (fun _=>kS2) ?_;clear hK K;try simp only[kA]
     refine zS 4 [(12,47),(13,48),(14,6),(15,7)] kS2 ?_;iterate 4 (apply zT;exact⟨rfl,rfl⟩;(·intro wk hk;have:=hk.cell x0;have:=hk.cell x1;have:=hk.cell x2;have:=hk.cell x3;have:=hk.cell x4;have:=hk.cell x5;have:=hk.cell x6;have:=hk.cell k0;have:=hk.cell k1;go_simp;try with_reducible rfl);simp only[kA];exact rfl)
     refine zN (zD ?_);have HFD:=zZ (HB.out.miss HM.out fun y hy=>by rw[HX.out]at hy;injection hy with hy;subst hy;show dT xs xq c g≠0;rw[HE.out];decide);go_wp2_with fail;refine bodyPost_ret (v:=.tuple #[.int .i64 (lo:Int),.bool false]) (by simp[results,results66,go_sem]) rfl ⟨⟨lo,false,rfl,HFD.out⟩,HFN.out.xt⟩
    ·have HFN:Bx (ae w w3 [(w.heap.size,#[.int .i64 c,.int .i64 g],71)]):=⟨HFr.out.ext (kS2)⟩
     have HE:=zZ e1;rw[e1];refine hK.out _ _ (fun _=>kS2) ?_;clear hK K;try simp only[kA]
     refine zS 4 [(12,47),(13,48),(14,6),(15,7)] kS2 ?_;iterate 4 (apply zT;exact⟨rfl,rfl⟩;(·intro wk hk;have:=hk.cell x0;have:=hk.cell x1;have:=hk.cell x2;have:=hk.cell x3;have:=hk.cell x4;have:=hk.cell x5;have:=hk.cell x6;have:=hk.cell k0;have:=hk.cell k1;go_simp;try with_reducible rfl);simp only[kA];exact rfl)
     refine zN (zD ?_);have HFD:=zZ (HB.out.hit HX.out HE.out);go_wp2_with fail;refine bodyPost_ret (v:=.tuple #[.int .i64 (lo:Int),.bool true]) (by simp[results,results66,go_sem]) rfl ⟨⟨lo,true,rfl,HFD.out⟩,HFN.out.xt⟩
    ·have HFN:Bx (ae w w3 [(w.heap.size,#[.int .i64 c,.int .i64 g],71)]):=⟨HFr.out.ext (kS2)⟩
     have HE:=zZ e1;rw[e1];refine hK.out _ _ (fun _=>kS2) ?_;clear hK K;try simp only[kA]
     refine zS 4 [(12,47),(13,48),(14,6),(15,7)] kS2 ?_;iterate 4 (apply zT;exact⟨rfl,rfl⟩;(·intro wk hk;have:=hk.cell x0;have:=hk.cell x1;have:=hk.cell x2;have:=hk.cell x3;have:=hk.cell x4;have:=hk.cell x5;have:=hk.cell x6;have:=hk.cell k0;have:=hk.cell k1;go_simp;try with_reducible rfl);simp only[kA];exact rfl)
     refine zN (zD ?_);have HFD:=zZ (HB.out.miss HM.out fun y hy=>by rw[HX.out]at hy;injection hy with hy;subst hy;show dT xs xq c g≠0;rw[HE.out];decide);go_wp2_with fail;refine bodyPost_ret (v:=.tuple #[.int .i64 (lo:Int),.bool false]) (by simp[results,results66,go_sem]) rfl ⟨⟨lo,false,rfl,HFD.out⟩,HFN.out.xt⟩
   ·obtain rfl:lo=n:=by omega
    have HFD:=zZ (HB.out.miss HM.out fun y hy=>by have:=(zY.1 hy).1;have:=HL.out;omega);have k0:=(HFr.out.at_ 0 rfl).c 0 rfl;go_upto_region 8 with (fail)
    refine zQ 99 fun wd kS=>?_;refine zS 16 [(0,35),(1,36),(2,37),(3,38),(4,39),(5,40),(6,41),(7,42),(8,43),(9,44),(10,45),(11,46),(12,47),(13,48),(14,6),(15,7)] kS ?_;iterate 5 (apply zT;exact⟨rfl,rfl⟩;(·intro wk hk;have:=hk.cell k0;go_simp;try with_reducible rfl);simp only[kA];exact rfl)
    iterate 8 (apply zK;exact⟨rfl,rfl⟩;simp only[kA];exact rfl)
    iterate 3 (apply zT;exact⟨rfl,rfl⟩;(·intro wk hk;have:=hk.cell k0;go_simp;try with_reducible rfl);simp only[kA];exact rfl)
    refine zN (zD ?_);go_wp2_with fail;refine bodyPost_ret (v:=.tuple #[.int .i64 (lo:Int),.bool false]) (by simp[results,results66,go_sem]) rfl ⟨⟨lo,false,rfl,HFD.out⟩,HFr.out.xt.trans kS⟩
end Go.Proofs.YtjgfgdcaocbfhaaGreat

