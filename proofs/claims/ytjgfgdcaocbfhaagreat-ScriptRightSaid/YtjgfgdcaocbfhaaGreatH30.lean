import Derived.Test.YtjgfgdcaocbfhaaGreatH29
import Derived.Laws.Shifts
import Derived.Test.YtjgfgdcaocbfhaaGreatH23
set_option linter.all false
set_option maxRecDepth 100000
set_option maxHeartbeats 0
namespace Go.Proofs.YtjgfgdcaocbfhaaGreat
open Go.Value renaming int→B,slice→D
open Go.IntKind renaming i64→C
open Go.RowKit _root_.Go.Proofs.Tryz
variable {p:Nat}
theorem FA(v:Value)(xs:List dF)(c:Int)(w:World)(h:d7 p w v xs)(hm:j8 xs (fun y=>aR y.cand c))(hn:xs.length≤1000000000) :
  Calls prog 82 #[v,B C c,.func (.func 83) #[] #[]] w fun e w'=>(∃(i:Nat) (b:Bool),e=.returned (.tuple #[B C (i:Int),.bool b])∧jz xs (fun y=>aR y.cand c) i b)∧ab w w':=by
 obtain⟨A,n,c0,rfl,hnc,hcc,hnn,HL⟩:=h.open_;have HV:Bx (d7 p w (D A n c0) xs):=⟨h⟩
 have HM:Bx (j8 xs (fun y=>aR y.cand c)):=⟨hm⟩
 have hn3:n≤1000000000:=by have:=HL.out;omega
 clear h hm hn;have HF:Bx (ae w w []):=⟨ae.start w⟩
 go_enter func82,ntmps82
 go_wp2_with fail;go_loopw [9,10] (fun s9 s10 wr=>∃lo hi:Nat,s9=B C lo∧s10=B C hi∧lo≤hi∧hi≤n∧Bx (ae w wr []∧nw xs (fun y=>aR y.cand c) lo hi)) (fun s9 s10 _=>(intOf s10).toNat-(intOf s9).toNat)
 case atStart=>exact⟨0,n,rfl,rfl,by omega,by omega,⟨⟨HF.out,by have:=nw.start xs (fun y=>aR y.cand c);rw[HL.out]at this;exact this⟩⟩⟩
 case round =>
  obtain⟨lo,hi,rfl,rfl,hlh,hhn,HR⟩:=hrel;have HFr:Bx (ae w wr []):=⟨HR.out.1⟩
  have HB:Bx (nw xs (fun y=>aR y.cand c) lo hi):=⟨HR.out.2⟩
  clear HR HF;by_cases hlt:lo<hi
  ·obtain⟨m,hm⟩:=nm ((lo+hi)/2:Nat);have hm1:lo≤m:=by omega
   have hm2:m<hi:=by omega
   have hmn:m<n:=by omega
   have hdiv:((lo:Int)+(hi:Int))/2=(m:Int):=by omega
   clear hm;obtain⟨b,off,_,_,rfl,-⟩:=HV.out.at_ (show m<n by omega);obtain⟨cs,⟨xa,xb,xd⟩,-,hc0,⟨hcs,-⟩,HX⟩:=(HV.out.ext (iK.stab p) HFr.out.xt).cell_ (show m<n by omega);have x0:=hc0 0 (B C xa) (by rw[hcs];rfl);have x1:=hc0 1 (B C xb) (by rw[hcs];rfl);have x2:=hc0 2 (B C xd) (by rw[hcs];rfl);rw[yP]at x0;clear hc0 hcs;go_upto_region 5 with (fail)
   clear hdiv;go_wp2_with (go_at_call 83;refine (tC xa xb xd c _).mono ?_;rintro e w3 ⟨rfl,hx3⟩;rcases aT xa c with ⟨h1,e1⟩|⟨h1,e1⟩|⟨h1,e1⟩<;>rw[e1])
   ·have HFN:Bx (ae w w3 []):=⟨HFr.out.ext hx3⟩
    have HE:=zZ e1;have HB2:=zZ (HB.out.up HM.out hm2 HX.out (show aR xa c<0 by rw[HE.out];decide));clear e1 h1 HX HFr HB hx3 x0 x1 x2;go_wp2_with fail;go_roundw
    case rel=>exact⟨m+1,hi,by go_num,rfl,by omega,by omega,⟨⟨HFN.out,HB2.out⟩⟩⟩
    case measure=>simp[intOf];omega
   ·have HFN:Bx (ae w w3 []):=⟨HFr.out.ext hx3⟩
    have HE:=zZ e1;have HB2:=zZ (HB.out.down HM.out hm1 hm2 HX.out (show 0≤aR xa c by rw[HE.out];decide));clear e1 h1 HX HFr HB hx3 x0 x1 x2;go_wp2_with fail;go_roundw
    case rel=>exact⟨lo,m,rfl,rfl,by omega,by omega,⟨⟨HFN.out,HB2.out⟩⟩⟩
    case measure=>simp[intOf];omega
   ·have HFN:Bx (ae w w3 []):=⟨HFr.out.ext hx3⟩
    have HE:=zZ e1;have HB2:=zZ (HB.out.down HM.out hm1 hm2 HX.out (show 0≤aR xa c by rw[HE.out];decide));clear e1 h1 HX HFr HB hx3 x0 x1 x2;go_wp2_with fail;go_roundw
    case rel=>exact⟨lo,m,rfl,rfl,by omega,by omega,⟨⟨HFN.out,HB2.out⟩⟩⟩
    case measure=>simp[intOf];omega
  ·obtain rfl:lo=hi:=by omega
   by_cases hln:lo<n
   ·obtain⟨b,off,_,_,rfl,-⟩:=HV.out.at_ (show lo<n by omega);obtain⟨cs,⟨xa,xb,xd⟩,-,hc0,⟨hcs,-⟩,HX⟩:=(HV.out.ext (iK.stab p) HFr.out.xt).cell_ (show lo<n by omega);have x0:=hc0 0 (B C xa) (by rw[hcs];rfl);have x1:=hc0 1 (B C xb) (by rw[hcs];rfl);have x2:=hc0 2 (B C xd) (by rw[hcs];rfl);rw[yP]at x0;clear hc0 hcs;go_wp2_with (go_at_call 83;refine (tC xa xb xd c _).mono ?_;rintro e w3 ⟨rfl,hx3⟩;rcases aT xa c with ⟨h1,e1⟩|⟨h1,e1⟩|⟨h1,e1⟩<;>rw[e1])
    ·have HFN:Bx (ae w w3 []):=⟨HFr.out.ext hx3⟩
     have HE:=zZ e1;have HFD:=zZ (HB.out.miss HM.out fun y hy=>by rw[HX.out]at hy;injection hy with hy;subst hy;show aR xa c≠0;rw[HE.out];decide);go_wp2_with fail;refine bodyPost_ret (v:=.tuple #[B C (lo:Int),.bool false]) (by simp[results,results82,go_sem]) rfl ⟨⟨lo,false,rfl,HFD.out⟩,HFN.out.xt⟩
    ·have HFN:Bx (ae w w3 []):=⟨HFr.out.ext hx3⟩
     have HE:=zZ e1;have HFD:=zZ (HB.out.hit HX.out HE.out);go_wp2_with fail;refine bodyPost_ret (v:=.tuple #[B C (lo:Int),.bool true]) (by simp[results,results82,go_sem]) rfl ⟨⟨lo,true,rfl,HFD.out⟩,HFN.out.xt⟩
    ·have HFN:Bx (ae w w3 []):=⟨HFr.out.ext hx3⟩
     have HE:=zZ e1;have HFD:=zZ (HB.out.miss HM.out fun y hy=>by rw[HX.out]at hy;injection hy with hy;subst hy;show aR xa c≠0;rw[HE.out];decide);go_wp2_with fail;refine bodyPost_ret (v:=.tuple #[B C (lo:Int),.bool false]) (by simp[results,results82,go_sem]) rfl ⟨⟨lo,false,rfl,HFD.out⟩,HFN.out.xt⟩
   ·obtain rfl:lo=n:=by omega
    have HFD:=zZ (HB.out.miss HM.out fun y hy=>by have:=(zY.1 hy).1;have:=HL.out;omega);go_wp2_with fail;refine bodyPost_ret (v:=.tuple #[B C (lo:Int),.bool false]) (by simp[results,results82,go_sem]) rfl ⟨⟨lo,false,rfl,HFD.out⟩,HFr.out.xt⟩
theorem Fm(v:Value)(xs:List dF)(c:Int)(w:World)(h:d7 p w v xs)(hm:j8 xs (fun y=>aR y.cand c))(hn:xs.length≤1000000000) :
  Calls prog 82 #[v,B C c,.func (.func 124) #[] #[]] w fun e w'=>(∃(i:Nat) (b:Bool),e=.returned (.tuple #[B C (i:Int),.bool b])∧jz xs (fun y=>aR y.cand c) i b)∧ab w w':=by
 obtain⟨A,n,c0,rfl,hnc,hcc,hnn,HL⟩:=h.open_;have HV:Bx (d7 p w (D A n c0) xs):=⟨h⟩
 have HM:Bx (j8 xs (fun y=>aR y.cand c)):=⟨hm⟩
 have hn3:n≤1000000000:=by have:=HL.out;omega
 clear h hm hn;have HF:Bx (ae w w []):=⟨ae.start w⟩
 go_enter func82,ntmps82
 go_wp2_with fail;go_loopw [9,10] (fun s9 s10 wr=>∃lo hi:Nat,s9=B C lo∧s10=B C hi∧lo≤hi∧hi≤n∧Bx (ae w wr []∧nw xs (fun y=>aR y.cand c) lo hi)) (fun s9 s10 _=>(intOf s10).toNat-(intOf s9).toNat)
 case atStart=>exact⟨0,n,rfl,rfl,by omega,by omega,⟨⟨HF.out,by have:=nw.start xs (fun y=>aR y.cand c);rw[HL.out]at this;exact this⟩⟩⟩
 case round =>
  obtain⟨lo,hi,rfl,rfl,hlh,hhn,HR⟩:=hrel;have HFr:Bx (ae w wr []):=⟨HR.out.1⟩
  have HB:Bx (nw xs (fun y=>aR y.cand c) lo hi):=⟨HR.out.2⟩
  clear HR HF;by_cases hlt:lo<hi
  ·obtain⟨m,hm⟩:=nm ((lo+hi)/2:Nat);have hm1:lo≤m:=by omega
   have hm2:m<hi:=by omega
   have hmn:m<n:=by omega
   have hdiv:((lo:Int)+(hi:Int))/2=(m:Int):=by omega
   clear hm;obtain⟨b,off,_,_,rfl,-⟩:=HV.out.at_ (show m<n by omega);obtain⟨cs,⟨xa,xb,xd⟩,-,hc0,⟨hcs,-⟩,HX⟩:=(HV.out.ext (iK.stab p) HFr.out.xt).cell_ (show m<n by omega);have x0:=hc0 0 (B C xa) (by rw[hcs];rfl);have x1:=hc0 1 (B C xb) (by rw[hcs];rfl);have x2:=hc0 2 (B C xd) (by rw[hcs];rfl);rw[yP]at x0;clear hc0 hcs;go_upto_region 5 with (fail)
   clear hdiv;go_wp2_with (go_at_call 124;refine (uH xa xb xd c _).mono ?_;rintro e w3 ⟨rfl,hx3⟩;rcases aT xa c with ⟨h1,e1⟩|⟨h1,e1⟩|⟨h1,e1⟩<;>rw[e1])
   ·have HFN:Bx (ae w w3 []):=⟨HFr.out.ext hx3⟩
    have HE:=zZ e1;have HB2:=zZ (HB.out.up HM.out hm2 HX.out (show aR xa c<0 by rw[HE.out];decide));clear e1 h1 HX HFr HB hx3 x0 x1 x2;go_wp2_with fail;go_roundw
    case rel=>exact⟨m+1,hi,by go_num,rfl,by omega,by omega,⟨⟨HFN.out,HB2.out⟩⟩⟩
    case measure=>simp[intOf];omega
   ·have HFN:Bx (ae w w3 []):=⟨HFr.out.ext hx3⟩
    have HE:=zZ e1;have HB2:=zZ (HB.out.down HM.out hm1 hm2 HX.out (show 0≤aR xa c by rw[HE.out];decide));clear e1 h1 HX HFr HB hx3 x0 x1 x2;go_wp2_with fail;go_roundw
    case rel=>exact⟨lo,m,rfl,rfl,by omega,by omega,⟨⟨HFN.out,HB2.out⟩⟩⟩
    case measure=>simp[intOf];omega
   ·have HFN:Bx (ae w w3 []):=⟨HFr.out.ext hx3⟩
    have HE:=zZ e1;have HB2:=zZ (HB.out.down HM.out hm1 hm2 HX.out (show 0≤aR xa c by rw[HE.out];decide));clear e1 h1 HX HFr HB hx3 x0 x1 x2;go_wp2_with fail;go_roundw
    case rel=>exact⟨lo,m,rfl,rfl,by omega,by omega,⟨⟨HFN.out,HB2.out⟩⟩⟩
    case measure=>simp[intOf];omega
  ·obtain rfl:lo=hi:=by omega
   by_cases hln:lo<n
   ·obtain⟨b,off,_,_,rfl,-⟩:=HV.out.at_ (show lo<n by omega);obtain⟨cs,⟨xa,xb,xd⟩,-,hc0,⟨hcs,-⟩,HX⟩:=(HV.out.ext (iK.stab p) HFr.out.xt).cell_ (show lo<n by omega);have x0:=hc0 0 (B C xa) (by rw[hcs];rfl);have x1:=hc0 1 (B C xb) (by rw[hcs];rfl);have x2:=hc0 2 (B C xd) (by rw[hcs];rfl);rw[yP]at x0;clear hc0 hcs;go_wp2_with (go_at_call 124;refine (uH xa xb xd c _).mono ?_;rintro e w3 ⟨rfl,hx3⟩;rcases aT xa c with ⟨h1,e1⟩|⟨h1,e1⟩|⟨h1,e1⟩<;>rw[e1])
    ·have HFN:Bx (ae w w3 []):=⟨HFr.out.ext hx3⟩
     have HE:=zZ e1;have HFD:=zZ (HB.out.miss HM.out fun y hy=>by rw[HX.out]at hy;injection hy with hy;subst hy;show aR xa c≠0;rw[HE.out];decide);go_wp2_with fail;refine bodyPost_ret (v:=.tuple #[B C (lo:Int),.bool false]) (by simp[results,results82,go_sem]) rfl ⟨⟨lo,false,rfl,HFD.out⟩,HFN.out.xt⟩
    ·have HFN:Bx (ae w w3 []):=⟨HFr.out.ext hx3⟩
     have HE:=zZ e1;have HFD:=zZ (HB.out.hit HX.out HE.out);go_wp2_with fail;refine bodyPost_ret (v:=.tuple #[B C (lo:Int),.bool true]) (by simp[results,results82,go_sem]) rfl ⟨⟨lo,true,rfl,HFD.out⟩,HFN.out.xt⟩
    ·have HFN:Bx (ae w w3 []):=⟨HFr.out.ext hx3⟩
     have HE:=zZ e1;have HFD:=zZ (HB.out.miss HM.out fun y hy=>by rw[HX.out]at hy;injection hy with hy;subst hy;show aR xa c≠0;rw[HE.out];decide);go_wp2_with fail;refine bodyPost_ret (v:=.tuple #[B C (lo:Int),.bool false]) (by simp[results,results82,go_sem]) rfl ⟨⟨lo,false,rfl,HFD.out⟩,HFN.out.xt⟩
   ·obtain rfl:lo=n:=by omega
    have HFD:=zZ (HB.out.miss HM.out fun y hy=>by have:=(zY.1 hy).1;have:=HL.out;omega);go_wp2_with fail;refine bodyPost_ret (v:=.tuple #[B C (lo:Int),.bool false]) (by simp[results,results82,go_sem]) rfl ⟨⟨lo,false,rfl,HFD.out⟩,HFr.out.xt⟩
theorem FL(v:Value)(xs:List Pg)(c g:Int)(w:World)(h:ke p w v xs)(hm:j8 xs (fun y=>dT y.cand y.page c g))(hn:xs.length≤1000000000) :
  Calls prog 78 #[v,.agg #[B C c,B C g],.func (.func 79) #[] #[]] w fun e w'=>(∃(i:Nat) (b:Bool),e=.returned (.tuple #[B C (i:Int),.bool b])∧jz xs (fun y=>dT y.cand y.page c g) i b)∧ab w w':=by
 obtain⟨A,n,c0,rfl,hnc,hcc,hnn,HL⟩:=h.open_;have HV:Bx (ke p w (D A n c0) xs):=⟨h⟩
 have HM:Bx (j8 xs (fun y=>dT y.cand y.page c g)):=⟨hm⟩
 have hn3:n≤1000000000:=by have:=HL.out;omega
 clear h hm hn;have HF:Bx (ae w (w.alloc (.cells #[B C c,B C g] 144)) [(w.heap.size,#[B C c,B C g],144)]):=⟨(ae.start w).push _ _ rfl⟩
 go_enter func78,ntmps78
 go_upto_region 1 with (fail)
 obtain⟨w1,hw1⟩:=nm ((w.alloc (.cells #[B C c,B C g] 144)):World);rw[←hw1]at HF;rw[←hw1];clear hw1;go_wp2_with fail;go_loopw [9,10] (fun s9 s10 wr=>∃lo hi:Nat,s9=B C lo∧s10=B C hi∧lo≤hi∧hi≤n∧Bx (ae w wr [(w.heap.size,#[B C c,B C g],144)]∧nw xs (fun y=>dT y.cand y.page c g) lo hi)) (fun s9 s10 _=>(intOf s10).toNat-(intOf s9).toNat)
 case atStart=>exact⟨0,n,rfl,rfl,by omega,by omega,⟨⟨HF.out,by have:=nw.start xs (fun y=>dT y.cand y.page c g);rw[HL.out]at this;exact this⟩⟩⟩
 case round =>
  obtain⟨lo,hi,rfl,rfl,hlh,hhn,HR⟩:=hrel;have HFr:Bx (ae w wr [(w.heap.size,#[B C c,B C g],144)]):=⟨HR.out.1⟩
  have HB:Bx (nw xs (fun y=>dT y.cand y.page c g) lo hi):=⟨HR.out.2⟩
  clear HR HF;by_cases hlt:lo<hi
  ·obtain⟨m,hm⟩:=nm ((lo+hi)/2:Nat);have hm1:lo≤m:=by omega
   have hm2:m<hi:=by omega
   have hmn:m<n:=by omega
   have hdiv:((lo:Int)+(hi:Int))/2=(m:Int):=by omega
   clear hm;obtain⟨b,off,_,_,rfl,-⟩:=HV.out.at_ (show m<n by omega);obtain⟨cs,⟨xc,xg,xt,xch,⟨xs,xq⟩⟩,-,hc0,⟨ux,hcs,hix,-⟩,HX⟩:=(HV.out.ext (j3.stab p) HFr.out.xt).cell_ (show m<n by omega);obtain⟨xA,xn,xcc,rfl,-⟩:=hix.open_;clear hix;have x0:=hc0 0 (B C xc) (by rw[hcs];rfl);have x1:=hc0 1 (B C xg) (by rw[hcs];rfl);have x2:=hc0 2 (B C xt) (by rw[hcs];rfl);have x3:=hc0 3 (D xA xn xcc) (by rw[hcs];rfl);have x4:=hc0 4 (B C xs) (by rw[hcs];rfl);have x5:=hc0 5 (B C xq) (by rw[hcs];rfl);rw[yP]at x0;clear hc0 hcs;obtain⟨k0,k1⟩:=(HFr.out.at_ 0 rfl).p2 rfl;go_upto_region 5 with (fail)
   clear hdiv;refine zQ 99 fun wd kS=>?_;refine zS 6 [(0,24),(1,25),(2,26),(3,27),(4,28),(5,29)] kS ?_;iterate 6 (apply zT;exact⟨rfl,rfl⟩;(·intro wk hk;have:=hk.cell x0;have:=hk.cell x1;have:=hk.cell x2;have:=hk.cell x3;have:=hk.cell x4;have:=hk.cell x5;have:=hk.cell k0;have:=hk.cell k1;go_simp;try with_reducible rfl);simp only[kA];exact rfl)
   refine zN (zO 6 (fun K hK=>?_));go_simp;refine (ul xc xg xt xs xq c g xA xn xcc _).mono ?_;rintro e w3 ⟨rfl,hx3⟩;have kS2:ab wr w3:=kS.trans hx3;rcases bY xc xg c g with ⟨h1,e1⟩|⟨h1,e1⟩|⟨h1,e1⟩
   ·have HFN:Bx (ae w w3 [(w.heap.size,#[B C c,B C g],144)]):=⟨HFr.out.ext (kS2)⟩
    have HE:=zZ e1;rw[e1];refine hK.out _ _ (fun _=>kS2) ?_;clear hK K;try simp only[kA]
    refine zS 1 [(7,31)] kS2 ?_;(apply zT;exact⟨rfl,rfl⟩;(·intro wk hk;have:=hk.cell x0;have:=hk.cell x1;have:=hk.cell x2;have:=hk.cell x3;have:=hk.cell x4;have:=hk.cell x5;have:=hk.cell k0;have:=hk.cell k1;go_simp;try with_reducible rfl);simp only[kA];exact rfl);refine zN (zD ?_);have HB2:=zZ (HB.out.up HM.out hm2 HX.out (show dT xc xg c g<0 by rw[HE.out];decide));clear e1 h1 HX HFr HB hx3 x0 x1 x2 x3 x4 x5 k0 k1 kS2 kS;go_wp2_with fail;go_roundw
    case rel=>exact⟨m+1,hi,by go_num,rfl,by omega,by omega,⟨⟨HFN.out,HB2.out⟩⟩⟩
    case measure=>simp[intOf];omega
   ·have HFN:Bx (ae w w3 [(w.heap.size,#[B C c,B C g],144)]):=⟨HFr.out.ext (kS2)⟩
    have HE:=zZ e1;rw[e1];refine hK.out _ _ (fun _=>kS2) ?_;clear hK K;try simp only[kA]
    refine zS 1 [(7,31)] kS2 ?_;(apply zT;exact⟨rfl,rfl⟩;(·intro wk hk;have:=hk.cell x0;have:=hk.cell x1;have:=hk.cell x2;have:=hk.cell x3;have:=hk.cell x4;have:=hk.cell x5;have:=hk.cell k0;have:=hk.cell k1;go_simp;try with_reducible rfl);simp only[kA];exact rfl);refine zN (zD ?_);have HB2:=zZ (HB.out.down HM.out hm1 hm2 HX.out (show 0≤dT xc xg c g by rw[HE.out];decide));clear e1 h1 HX HFr HB hx3 x0 x1 x2 x3 x4 x5 k0 k1 kS2 kS;go_wp2_with fail;go_roundw
    case rel=>exact⟨lo,m,rfl,rfl,by omega,by omega,⟨⟨HFN.out,HB2.out⟩⟩⟩
    case measure=>simp[intOf];omega
   ·have HFN:Bx (ae w w3 [(w.heap.size,#[B C c,B C g],144)]):=⟨HFr.out.ext (kS2)⟩
    have HE:=zZ e1;rw[e1];refine hK.out _ _ (fun _=>kS2) ?_;clear hK K;try simp only[kA]
    refine zS 1 [(7,31)] kS2 ?_;(apply zT;exact⟨rfl,rfl⟩;(·intro wk hk;have:=hk.cell x0;have:=hk.cell x1;have:=hk.cell x2;have:=hk.cell x3;have:=hk.cell x4;have:=hk.cell x5;have:=hk.cell k0;have:=hk.cell k1;go_simp;try with_reducible rfl);simp only[kA];exact rfl);refine zN (zD ?_);have HB2:=zZ (HB.out.down HM.out hm1 hm2 HX.out (show 0≤dT xc xg c g by rw[HE.out];decide));clear e1 h1 HX HFr HB hx3 x0 x1 x2 x3 x4 x5 k0 k1 kS2 kS;go_wp2_with fail;go_roundw
    case rel=>exact⟨lo,m,rfl,rfl,by omega,by omega,⟨⟨HFN.out,HB2.out⟩⟩⟩
    case measure=>simp[intOf];omega
  ·obtain rfl:lo=hi:=by omega
   by_cases hln:lo<n
   ·obtain⟨b,off,_,_,rfl,-⟩:=HV.out.at_ (show lo<n by omega);obtain⟨cs,⟨xc,xg,xt,xch,⟨xs,xq⟩⟩,-,hc0,⟨ux,hcs,hix,-⟩,HX⟩:=(HV.out.ext (j3.stab p) HFr.out.xt).cell_ (show lo<n by omega);obtain⟨xA,xn,xcc,rfl,-⟩:=hix.open_;clear hix;have x0:=hc0 0 (B C xc) (by rw[hcs];rfl);have x1:=hc0 1 (B C xg) (by rw[hcs];rfl);have x2:=hc0 2 (B C xt) (by rw[hcs];rfl);have x3:=hc0 3 (D xA xn xcc) (by rw[hcs];rfl);have x4:=hc0 4 (B C xs) (by rw[hcs];rfl);have x5:=hc0 5 (B C xq) (by rw[hcs];rfl);rw[yP]at x0;clear hc0 hcs;obtain⟨k0,k1⟩:=(HFr.out.at_ 0 rfl).p2 rfl;go_upto_region 8 with (fail)
    refine zQ 99 fun wd kS=>?_;refine zS 11 [(0,35),(1,36),(2,37),(3,38),(4,39),(5,40),(6,41),(7,42),(8,43),(9,44),(10,45)] kS ?_;iterate 11 (apply zT;exact⟨rfl,rfl⟩;(·intro wk hk;have:=hk.cell x0;have:=hk.cell x1;have:=hk.cell x2;have:=hk.cell x3;have:=hk.cell x4;have:=hk.cell x5;have:=hk.cell k0;have:=hk.cell k1;go_simp;try with_reducible rfl);simp only[kA];exact rfl)
    refine zN (zO 11 (fun K hK=>?_));go_simp;refine (ul xc xg xt xs xq c g xA xn xcc _).mono ?_;rintro e w3 ⟨rfl,hx3⟩;have kS2:ab wr w3:=kS.trans hx3;rcases bY xc xg c g with ⟨h1,e1⟩|⟨h1,e1⟩|⟨h1,e1⟩
    ·have HFN:Bx (ae w w3 [(w.heap.size,#[B C c,B C g],144)]):=⟨HFr.out.ext (kS2)⟩
     have HE:=zZ e1;rw[e1];refine hK.out _ _ (fun _=>kS2) ?_;clear hK K;try simp only[kA]
     refine zS 4 [(12,47),(13,48),(14,6),(15,7)] kS2 ?_;iterate 4 (apply zT;exact⟨rfl,rfl⟩;(·intro wk hk;have:=hk.cell x0;have:=hk.cell x1;have:=hk.cell x2;have:=hk.cell x3;have:=hk.cell x4;have:=hk.cell x5;have:=hk.cell k0;have:=hk.cell k1;go_simp;try with_reducible rfl);simp only[kA];exact rfl)
     refine zN (zD ?_);have HFD:=zZ (HB.out.miss HM.out fun y hy=>by rw[HX.out]at hy;injection hy with hy;subst hy;show dT xc xg c g≠0;rw[HE.out];decide);go_wp2_with fail;refine bodyPost_ret (v:=.tuple #[B C (lo:Int),.bool false]) (by simp[results,results78,go_sem]) rfl ⟨⟨lo,false,rfl,HFD.out⟩,HFN.out.xt⟩
    ·have HFN:Bx (ae w w3 [(w.heap.size,#[B C c,B C g],144)]):=⟨HFr.out.ext (kS2)⟩
     have HE:=zZ e1;rw[e1];refine hK.out _ _ (fun _=>kS2) ?_;clear hK K;try simp only[kA]
     refine zS 4 [(12,47),(13,48),(14,6),(15,7)] kS2 ?_;iterate 4 (apply zT;exact⟨rfl,rfl⟩;(·intro wk hk;have:=hk.cell x0;have:=hk.cell x1;have:=hk.cell x2;have:=hk.cell x3;have:=hk.cell x4;have:=hk.cell x5;have:=hk.cell k0;have:=hk.cell k1;go_simp;try with_reducible rfl);simp only[kA];exact rfl)
     refine zN (zD ?_);have HFD:=zZ (HB.out.hit HX.out HE.out);go_wp2_with fail;refine bodyPost_ret (v:=.tuple #[B C (lo:Int),.bool true]) (by simp[results,results78,go_sem]) rfl ⟨⟨lo,true,rfl,HFD.out⟩,HFN.out.xt⟩
    ·have HFN:Bx (ae w w3 [(w.heap.size,#[B C c,B C g],144)]):=⟨HFr.out.ext (kS2)⟩
     have HE:=zZ e1;rw[e1];refine hK.out _ _ (fun _=>kS2) ?_;clear hK K;try simp only[kA]
     refine zS 4 [(12,47),(13,48),(14,6),(15,7)] kS2 ?_;iterate 4 (apply zT;exact⟨rfl,rfl⟩;(·intro wk hk;have:=hk.cell x0;have:=hk.cell x1;have:=hk.cell x2;have:=hk.cell x3;have:=hk.cell x4;have:=hk.cell x5;have:=hk.cell k0;have:=hk.cell k1;go_simp;try with_reducible rfl);simp only[kA];exact rfl)
     refine zN (zD ?_);have HFD:=zZ (HB.out.miss HM.out fun y hy=>by rw[HX.out]at hy;injection hy with hy;subst hy;show dT xc xg c g≠0;rw[HE.out];decide);go_wp2_with fail;refine bodyPost_ret (v:=.tuple #[B C (lo:Int),.bool false]) (by simp[results,results78,go_sem]) rfl ⟨⟨lo,false,rfl,HFD.out⟩,HFN.out.xt⟩
   ·obtain rfl:lo=n:=by omega
    have HFD:=zZ (HB.out.miss HM.out fun y hy=>by have:=(zY.1 hy).1;have:=HL.out;omega);have k0:=(HFr.out.at_ 0 rfl).c 0 rfl;go_upto_region 8 with (fail)
    refine zQ 99 fun wd kS=>?_;refine zS 16 [(0,35),(1,36),(2,37),(3,38),(4,39),(5,40),(6,41),(7,42),(8,43),(9,44),(10,45),(11,46),(12,47),(13,48),(14,6),(15,7)] kS ?_;iterate 5 (apply zT;exact⟨rfl,rfl⟩;(·intro wk hk;have:=hk.cell k0;go_simp;try with_reducible rfl);simp only[kA];exact rfl)
    iterate 8 (apply zK;exact⟨rfl,rfl⟩;simp only[kA];exact rfl)
    iterate 3 (apply zT;exact⟨rfl,rfl⟩;(·intro wk hk;have:=hk.cell k0;go_simp;try with_reducible rfl);simp only[kA];exact rfl)
    refine zN (zD ?_);go_wp2_with fail;refine bodyPost_ret (v:=.tuple #[B C (lo:Int),.bool false]) (by simp[results,results78,go_sem]) rfl ⟨⟨lo,false,rfl,HFD.out⟩,HFr.out.xt.trans kS⟩
theorem Bu(v:Value)(xs:List aY)(c g:Int)(w:World)(h:eF p w v xs)(hm:j8 xs (fun y=>dT y.scan.s y.scan.q c g))(hn:xs.length≤1000000000) :
  Calls prog 66 #[v,.agg #[B C c,B C g],.func (.func 67) #[] #[]] w fun e w'=>(∃(i:Nat) (b:Bool),e=.returned (.tuple #[B C (i:Int),.bool b])∧jz xs (fun y=>dT y.scan.s y.scan.q c g) i b)∧ab w w':=by
 obtain⟨A,n,c0,rfl,hnc,hcc,hnn,HL⟩:=h.open_;have HV:Bx (eF p w (D A n c0) xs):=⟨h⟩
 have HM:Bx (j8 xs (fun y=>dT y.scan.s y.scan.q c g)):=⟨hm⟩
 have hn3:n≤1000000000:=by have:=HL.out;omega
 clear h hm hn;have HF:Bx (ae w (w.alloc (.cells #[B C c,B C g] 71)) [(w.heap.size,#[B C c,B C g],71)]):=⟨(ae.start w).push _ _ rfl⟩
 go_enter func66,ntmps66
 go_upto_region 1 with (fail)
 obtain⟨w1,hw1⟩:=nm ((w.alloc (.cells #[B C c,B C g] 71)):World);rw[←hw1]at HF;rw[←hw1];clear hw1;go_wp2_with fail;go_loopw [9,10] (fun s9 s10 wr=>∃lo hi:Nat,s9=B C lo∧s10=B C hi∧lo≤hi∧hi≤n∧Bx (ae w wr [(w.heap.size,#[B C c,B C g],71)]∧nw xs (fun y=>dT y.scan.s y.scan.q c g) lo hi)) (fun s9 s10 _=>(intOf s10).toNat-(intOf s9).toNat)
 case atStart=>exact⟨0,n,rfl,rfl,by omega,by omega,⟨⟨HF.out,by have:=nw.start xs (fun y=>dT y.scan.s y.scan.q c g);rw[HL.out]at this;exact this⟩⟩⟩
 case round =>
  obtain⟨lo,hi,rfl,rfl,hlh,hhn,HR⟩:=hrel;have HFr:Bx (ae w wr [(w.heap.size,#[B C c,B C g],71)]):=⟨HR.out.1⟩
  have HB:Bx (nw xs (fun y=>dT y.scan.s y.scan.q c g) lo hi):=⟨HR.out.2⟩
  clear HR HF;by_cases hlt:lo<hi
  ·obtain⟨m,hm⟩:=nm ((lo+hi)/2:Nat);have hm1:lo≤m:=by omega
   have hm2:m<hi:=by omega
   have hmn:m<n:=by omega
   have hdiv:((lo:Int)+(hi:Int))/2=(m:Int):=by omega
   clear hm;obtain⟨b,off,_,_,rfl,-⟩:=HV.out.at_ (show m<n by omega);obtain⟨cs,⟨⟨xs,xq⟩,xt,⟨xa,xb,xc,xd⟩⟩,-,hc0,⟨hcs,-⟩,HX⟩:=(HV.out.ext (cQ.stab p) HFr.out.xt).cell_ (show m<n by omega);have x0:=hc0 0 (B C xs) (by rw[hcs];rfl);have x1:=hc0 1 (B C xq) (by rw[hcs];rfl);have x2:=hc0 2 (B C xt) (by rw[hcs];rfl);have x3:=hc0 3 (B C xa) (by rw[hcs];rfl);have x4:=hc0 4 (B C xb) (by rw[hcs];rfl);have x5:=hc0 5 (B C xc) (by rw[hcs];rfl);have x6:=hc0 6 (B C xd) (by rw[hcs];rfl);rw[yP]at x0;clear hc0 hcs;obtain⟨k0,k1⟩:=(HFr.out.at_ 0 rfl).p2 rfl;go_upto_region 5 with (fail)
   clear hdiv;refine zQ 99 fun wd kS=>?_;refine zS 6 [(0,24),(1,25),(2,26),(3,27),(4,28),(5,29)] kS ?_;iterate 6 (apply zT;exact⟨rfl,rfl⟩;(·intro wk hk;have:=hk.cell x0;have:=hk.cell x1;have:=hk.cell x2;have:=hk.cell x3;have:=hk.cell x4;have:=hk.cell x5;have:=hk.cell x6;have:=hk.cell k0;have:=hk.cell k1;go_simp;try with_reducible rfl);simp only[kA];exact rfl)
   refine zN (zO 6 (fun K hK=>?_));go_simp;refine (uD xs xq xt xa xb xc xd c g _).mono ?_;rintro e w3 ⟨rfl,hx3⟩;have kS2:ab wr w3:=kS.trans hx3;rcases bY xs xq c g with ⟨h1,e1⟩|⟨h1,e1⟩|⟨h1,e1⟩
   ·have HFN:Bx (ae w w3 [(w.heap.size,#[B C c,B C g],71)]):=⟨HFr.out.ext (kS2)⟩
    have HE:=zZ e1;rw[e1];refine hK.out _ _ (fun _=>kS2) ?_;clear hK K;try simp only[kA]
    refine zS 1 [(7,31)] kS2 ?_;(apply zT;exact⟨rfl,rfl⟩;(·intro wk hk;have:=hk.cell x0;have:=hk.cell x1;have:=hk.cell x2;have:=hk.cell x3;have:=hk.cell x4;have:=hk.cell x5;have:=hk.cell x6;have:=hk.cell k0;have:=hk.cell k1;go_simp;try with_reducible rfl);simp only[kA];exact rfl);refine zN (zD ?_);have HB2:=zZ (HB.out.up HM.out hm2 HX.out (show dT xs xq c g<0 by rw[HE.out];decide));clear e1 h1 HX HFr HB hx3 x0 x1 x2 x3 x4 x5 x6 k0 k1 kS2 kS;go_wp2_with fail;go_roundw
    case rel=>exact⟨m+1,hi,by go_num,rfl,by omega,by omega,⟨⟨HFN.out,HB2.out⟩⟩⟩
    case measure=>simp[intOf];omega
   ·have HFN:Bx (ae w w3 [(w.heap.size,#[B C c,B C g],71)]):=⟨HFr.out.ext (kS2)⟩
    have HE:=zZ e1;rw[e1];refine hK.out _ _ (fun _=>kS2) ?_;clear hK K;try simp only[kA]
    refine zS 1 [(7,31)] kS2 ?_;(apply zT;exact⟨rfl,rfl⟩;(·intro wk hk;have:=hk.cell x0;have:=hk.cell x1;have:=hk.cell x2;have:=hk.cell x3;have:=hk.cell x4;have:=hk.cell x5;have:=hk.cell x6;have:=hk.cell k0;have:=hk.cell k1;go_simp;try with_reducible rfl);simp only[kA];exact rfl);refine zN (zD ?_);have HB2:=zZ (HB.out.down HM.out hm1 hm2 HX.out (show 0≤dT xs xq c g by rw[HE.out];decide));clear e1 h1 HX HFr HB hx3 x0 x1 x2 x3 x4 x5 x6 k0 k1 kS2 kS;go_wp2_with fail;go_roundw
    case rel=>exact⟨lo,m,rfl,rfl,by omega,by omega,⟨⟨HFN.out,HB2.out⟩⟩⟩
    case measure=>simp[intOf];omega
   ·have HFN:Bx (ae w w3 [(w.heap.size,#[B C c,B C g],71)]):=⟨HFr.out.ext (kS2)⟩
    have HE:=zZ e1;rw[e1];refine hK.out _ _ (fun _=>kS2) ?_;clear hK K;try simp only[kA]
    refine zS 1 [(7,31)] kS2 ?_;(apply zT;exact⟨rfl,rfl⟩;(·intro wk hk;have:=hk.cell x0;have:=hk.cell x1;have:=hk.cell x2;have:=hk.cell x3;have:=hk.cell x4;have:=hk.cell x5;have:=hk.cell x6;have:=hk.cell k0;have:=hk.cell k1;go_simp;try with_reducible rfl);simp only[kA];exact rfl);refine zN (zD ?_);have HB2:=zZ (HB.out.down HM.out hm1 hm2 HX.out (show 0≤dT xs xq c g by rw[HE.out];decide));clear e1 h1 HX HFr HB hx3 x0 x1 x2 x3 x4 x5 x6 k0 k1 kS2 kS;go_wp2_with fail;go_roundw
    case rel=>exact⟨lo,m,rfl,rfl,by omega,by omega,⟨⟨HFN.out,HB2.out⟩⟩⟩
    case measure=>simp[intOf];omega
  ·obtain rfl:lo=hi:=by omega
   by_cases hln:lo<n
   ·obtain⟨b,off,_,_,rfl,-⟩:=HV.out.at_ (show lo<n by omega);obtain⟨cs,⟨⟨xs,xq⟩,xt,⟨xa,xb,xc,xd⟩⟩,-,hc0,⟨hcs,-⟩,HX⟩:=(HV.out.ext (cQ.stab p) HFr.out.xt).cell_ (show lo<n by omega);have x0:=hc0 0 (B C xs) (by rw[hcs];rfl);have x1:=hc0 1 (B C xq) (by rw[hcs];rfl);have x2:=hc0 2 (B C xt) (by rw[hcs];rfl);have x3:=hc0 3 (B C xa) (by rw[hcs];rfl);have x4:=hc0 4 (B C xb) (by rw[hcs];rfl);have x5:=hc0 5 (B C xc) (by rw[hcs];rfl);have x6:=hc0 6 (B C xd) (by rw[hcs];rfl);rw[yP]at x0;clear hc0 hcs;obtain⟨k0,k1⟩:=(HFr.out.at_ 0 rfl).p2 rfl;go_upto_region 8 with (fail)
    refine zQ 99 fun wd kS=>?_;refine zS 11 [(0,35),(1,36),(2,37),(3,38),(4,39),(5,40),(6,41),(7,42),(8,43),(9,44),(10,45)] kS ?_;iterate 11 (apply zT;exact⟨rfl,rfl⟩;(·intro wk hk;have:=hk.cell x0;have:=hk.cell x1;have:=hk.cell x2;have:=hk.cell x3;have:=hk.cell x4;have:=hk.cell x5;have:=hk.cell x6;have:=hk.cell k0;have:=hk.cell k1;go_simp;try with_reducible rfl);simp only[kA];exact rfl)
    refine zN (zO 11 (fun K hK=>?_));go_simp;refine (uD xs xq xt xa xb xc xd c g _).mono ?_;rintro e w3 ⟨rfl,hx3⟩;have kS2:ab wr w3:=kS.trans hx3;rcases bY xs xq c g with ⟨h1,e1⟩|⟨h1,e1⟩|⟨h1,e1⟩
    ·have HFN:Bx (ae w w3 [(w.heap.size,#[B C c,B C g],71)]):=⟨HFr.out.ext (kS2)⟩
     have HE:=zZ e1;rw[e1];refine hK.out _ _ (fun _=>kS2) ?_;clear hK K;try simp only[kA]
     refine zS 4 [(12,47),(13,48),(14,6),(15,7)] kS2 ?_;iterate 4 (apply zT;exact⟨rfl,rfl⟩;(·intro wk hk;have:=hk.cell x0;have:=hk.cell x1;have:=hk.cell x2;have:=hk.cell x3;have:=hk.cell x4;have:=hk.cell x5;have:=hk.cell x6;have:=hk.cell k0;have:=hk.cell k1;go_simp;try with_reducible rfl);simp only[kA];exact rfl)
     refine zN (zD ?_);have HFD:=zZ (HB.out.miss HM.out fun y hy=>by rw[HX.out]at hy;injection hy with hy;subst hy;show dT xs xq c g≠0;rw[HE.out];decide);go_wp2_with fail;refine bodyPost_ret (v:=.tuple #[B C (lo:Int),.bool false]) (by simp[results,results66,go_sem]) rfl ⟨⟨lo,false,rfl,HFD.out⟩,HFN.out.xt⟩
    ·have HFN:Bx (ae w w3 [(w.heap.size,#[B C c,B C g],71)]):=⟨HFr.out.ext (kS2)⟩
     have HE:=zZ e1;rw[e1];refine hK.out _ _ (fun _=>kS2) ?_;clear hK K;try simp only[kA]
     refine zS 4 [(12,47),(13,48),(14,6),(15,7)] kS2 ?_;iterate 4 (apply zT;exact⟨rfl,rfl⟩;(·intro wk hk;have:=hk.cell x0;have:=hk.cell x1;have:=hk.cell x2;have:=hk.cell x3;have:=hk.cell x4;have:=hk.cell x5;have:=hk.cell x6;have:=hk.cell k0;have:=hk.cell k1;go_simp;try with_reducible rfl);simp only[kA];exact rfl)
     refine zN (zD ?_);have HFD:=zZ (HB.out.hit HX.out HE.out);go_wp2_with fail;refine bodyPost_ret (v:=.tuple #[B C (lo:Int),.bool true]) (by simp[results,results66,go_sem]) rfl ⟨⟨lo,true,rfl,HFD.out⟩,HFN.out.xt⟩
    ·have HFN:Bx (ae w w3 [(w.heap.size,#[B C c,B C g],71)]):=⟨HFr.out.ext (kS2)⟩
     have HE:=zZ e1;rw[e1];refine hK.out _ _ (fun _=>kS2) ?_;clear hK K;try simp only[kA]
     refine zS 4 [(12,47),(13,48),(14,6),(15,7)] kS2 ?_;iterate 4 (apply zT;exact⟨rfl,rfl⟩;(·intro wk hk;have:=hk.cell x0;have:=hk.cell x1;have:=hk.cell x2;have:=hk.cell x3;have:=hk.cell x4;have:=hk.cell x5;have:=hk.cell x6;have:=hk.cell k0;have:=hk.cell k1;go_simp;try with_reducible rfl);simp only[kA];exact rfl)
     refine zN (zD ?_);have HFD:=zZ (HB.out.miss HM.out fun y hy=>by rw[HX.out]at hy;injection hy with hy;subst hy;show dT xs xq c g≠0;rw[HE.out];decide);go_wp2_with fail;refine bodyPost_ret (v:=.tuple #[B C (lo:Int),.bool false]) (by simp[results,results66,go_sem]) rfl ⟨⟨lo,false,rfl,HFD.out⟩,HFN.out.xt⟩
   ·obtain rfl:lo=n:=by omega
    have HFD:=zZ (HB.out.miss HM.out fun y hy=>by have:=(zY.1 hy).1;have:=HL.out;omega);have k0:=(HFr.out.at_ 0 rfl).c 0 rfl;go_upto_region 8 with (fail)
    refine zQ 99 fun wd kS=>?_;refine zS 16 [(0,35),(1,36),(2,37),(3,38),(4,39),(5,40),(6,41),(7,42),(8,43),(9,44),(10,45),(11,46),(12,47),(13,48),(14,6),(15,7)] kS ?_;iterate 5 (apply zT;exact⟨rfl,rfl⟩;(·intro wk hk;have:=hk.cell k0;go_simp;try with_reducible rfl);simp only[kA];exact rfl)
    iterate 8 (apply zK;exact⟨rfl,rfl⟩;simp only[kA];exact rfl)
    iterate 3 (apply zT;exact⟨rfl,rfl⟩;(·intro wk hk;have:=hk.cell k0;go_simp;try with_reducible rfl);simp only[kA];exact rfl)
    refine zN (zD ?_);go_wp2_with fail;refine bodyPost_ret (v:=.tuple #[B C (lo:Int),.bool false]) (by simp[results,results66,go_sem]) rfl ⟨⟨lo,false,rfl,HFD.out⟩,HFr.out.xt.trans kS⟩
theorem qC(x:Int)(w:World):Calls prog 126 #[B C x] w fun e w'=>e=.returned (.bool (!bd x))∧w=w':=by
 go_enter func126,ntmps126
 go_wp2
 all_goals (go_ret;exact⟨aa (by unfold bd;first|(simp;done)|(simp;omega)|(rw[yE];simp;done)|(rw[yE];simp;omega)),rfl⟩)
theorem r7(v:Value)(l:List Int)(w:World)(h:ao p w v l) :
  Calls prog 154 #[v,.func (.func 126) #[] #[]] w fun e w'=>e=.returned (B C (uz (fun x=>!bd x) l))∧w=w':=by
 obtain⟨A,n,c,rfl,hnc,hc,hnn,HL⟩:=h.open_;have H:=zZ h;clear h;go_enter func154,ntmps154
 go_wp2
 go_loop [8] (fun i=>∃k:Nat,k≤n∧i=B C k∧Hid ((l.take k).all (fun x=>!!bd x)=true)) (fun i=>n-(intOf i).toNat)
 case atStart=>exact⟨0,yK _,rfl,by simp[Hid]⟩
 case round =>
  obtain⟨k,hk,rfl,HK⟩:=hrel;by_cases hlt:k<n
  ·obtain⟨b,off,x,rfl,hcx,HX,hx1,hx2⟩:=H.out.at_ hlt;cases hb:bd x
   ·have HB:=zZ hb;clear hb;go_wp2_with (go_at_call 126;refine (qC _ _).mono ?_;rintro e w' ⟨rfl,rfl⟩;rw[HB.out]);go_ret
    exact⟨ah (uo HX.out (by simp[HB.out]) HK.out),rfl⟩
   ·have HB:=zZ hb;clear hb;go_wp2_with (go_at_call 126;refine (qC _ _).mono ?_;rintro e w' ⟨rfl,rfl⟩;rw[HB.out]);go_round
    case rel=>exact⟨k+1,by omega,by go_num,by show (l.take (k+1)).all _=true;rw[pi HX.out,HK.out];simp[HB.out]⟩
    case measure=>simp[intOf];omega
  ·go_wp2
   go_ret
   have:=HK.out;rw[aD (by have:=HL.out;omega)]at this;exact⟨ah (rj this),rfl⟩
theorem m7(v:Value)(l:List Int)(w:World)(h:ao p w v l) :
  Calls prog 125 #[v,.func (.func 126) #[] #[]] w fun e w'=>e=.returned (.bool (l.any (fun x=>!bd x)))∧w=w':=by
 have H:=zZ h;clear h;go_enter func125,ntmps125
 go_wp2_with (go_at_call 154;refine (r7 _ l _ H.out).mono ?_;rintro e w' ⟨rfl,rfl⟩);go_ret
 exact⟨aa (um _ _),rfl⟩
theorem sg{s:aZ}(h:cD s)(c:Int):j8 s.xp (fun y=>aR y.cand c):=by
 refine sB h.asc_ (fun x y hxy hc=>?_) (fun x y hxy hc=>?_)
 ·unfold ub at hxy;simp only[decide_eq_true_eq]at hxy;rcases aT y.cand c with ⟨a,e⟩|⟨a,e⟩|⟨a,e⟩<;>rcases aT x.cand c with ⟨b,f⟩|⟨b,f⟩|⟨b,f⟩<;>(try simp only at hc⊢)<;>omega
 ·unfold ub at hxy;simp only[decide_eq_true_eq]at hxy;rcases aT y.cand c with ⟨a,e⟩|⟨a,e⟩|⟨a,e⟩<;>rcases aT x.cand c with ⟨b,f⟩|⟨b,f⟩|⟨b,f⟩<;>(try simp only at hc⊢)<;>omega
theorem BA{s:aZ}(h:cD s){c:Int}{i:Nat}{b:Bool}(hf:jz s.xp (fun y=>aR y.cand c) i b):(b=true→∃x,s.xp[i]?=some x∧aJ s.xp c=some x)∧(b=false→aJ s.xp c=none):=by refine hf.find (sg h c) fun x _=>?_;rcases aT x.cand c with ⟨a,e⟩|⟨a,e⟩|⟨a,e⟩<;>(try simp only[decide_eq_true_eq])<;>omega
theorem zy(v vc:Value)(s:aZ)(lp lc lg lv:Int)(ch:List Int)(w:World){q:Nat}(hp:p<w.heap.size)(hs:aN p w v s)(hc:ao q w vc ch)(hl:cU.wf ⟨lp,lc,lg,lv⟩)(hok:cD s) :
  Calls prog 101 #[v,.agg #[B C lp,B C lc,B C lg,B C lv],vc] w fun e w'=>e=.returned (.bool (be s ⟨lp,lc,lg,lv⟩ ch))∧ab w w':=by
 obtain⟨vP,vB,vX,rfl,hP,hB,hX,hnum⟩:=hs;obtain⟨AP,nP,cP,rfl,hnP,hcP,hmP,HLP⟩:=hP.open_;obtain⟨AB,nB,cB,rfl,hnB,hcB,hmB,HLB⟩:=hB.open_;obtain⟨AX,nX,cX,rfl,hnX,hcX,hmX,HLX⟩:=hX.open_;obtain⟨AC,nC,cC,rfl,hnC,hcC,hmC,HLC⟩:=hc.open_;have HR0:Bx (hY p w (D AP nP cP) s.pap∧gm p w (D AB nB cB) s.bk∧d7 p w (D AX nX cX) s.xp∧ao q w (D AC nC cC) ch):=⟨⟨hP,hB,hX,hc⟩⟩
 have HLG:Bx (aC lg):=⟨hl.2.2.1⟩
 have HOK:Bx (cD s):=⟨hok⟩
 have hx60:s.xp.length≤60:=hok.len.2.2;obtain⟨hl1,hl2⟩:=hl.2.2.1;clear hP hB hX hc hnum hl hok;obtain⟨w1,hw1⟩:=nm (((w.alloc (.cells #[B C s.num,D AP nP cP,D AB nB cB,D AX nX cX] 27)).alloc (.cells #[B C lp,B C lc,B C lg,B C lv] 73)):World);have HF:Bx (ae w w1 [(w.heap.size,#[B C s.num,D AP nP cP,D AB nB cB,D AX nX cX],27),(w.heap.size+1,#[B C lp,B C lc,B C lg,B C lv],73)]):=⟨by rw[hw1];exact ((ae.start w).push _ _ rfl).push _ _ (by simp)⟩
 obtain⟨z0,z1,z2,z3⟩:=(HF.out.at_ 0 rfl).p4 rfl;obtain⟨l0,l1,l2,l3⟩:=(HF.out.at_ 1 rfl).p4 rfl;go_enter func101,ntmps101
 go_upto_region 1 with (fail)
 rw[←hw1];clear hw1;go_wp2_with fail;refine (Fm _ s.xp lc _ (HR0.out.2.2.1.ext (iK.stab p) HF.out.xt) (sg HOK.out lc) (by omega)).mono ?_;rintro e w2 ⟨⟨i,b,rfl,hfd⟩,hx2⟩;have HFD:=zZ (BA HOK.out hfd);have HF2:=bx (HF.out.ext hx2);have hib:i≤nX:=by have:=hfd.1;have:=HLX.out;omega
 clear HF hx2 z0 z1 z2 z3 l0 l1 l2 l3 hfd;obtain⟨z0,z1,z2,z3⟩:=(HF2.out.at_ 0 rfl).p4 rfl;obtain⟨l0,l1,l2,l3⟩:=(HF2.out.at_ 1 rfl).p4 rfl;go_upto_region 2 with (fail)
 by_cases hpn:lp=s.num;case neg =>
  have HE:=zZ (show be s ⟨lp,lc,lg,lv⟩ ch=false from qM hpn);have hcb:(lp != s.num)=true:=by simp[hpn]
  replace hpn:=zZ hpn;refine zQ 99 fun wd kS=>?_;refine zS 20 [(0,18),(1,19),(2,20),(3,21),(4,22),(5,23),(6,24),(7,25),(8,26),(9,27),(10,28),(11,29),(12,30),(13,31),(14,32),(15,33),(16,34),(17,35),(18,36),(19,37)] kS ?_;iterate 6 (apply zT;exact⟨rfl,rfl⟩;(·intro wk hk;have:=hk.cell z0;have:=hk.cell l0;go_simp;try with_reducible rfl);simp only[kA];exact rfl)
  iterate 2 (apply zK;exact⟨rfl,rfl⟩;simp only[kA];exact rfl)
  iterate 2 (apply zT;exact⟨rfl,rfl⟩;(·intro wk hk;have:=hk.cell z0;have:=hk.cell l0;go_simp;try with_reducible rfl);simp only[kA];exact rfl)
  iterate 9 (apply zK;exact⟨rfl,rfl⟩;simp only[kA];exact rfl)
  (apply zT;exact⟨rfl,rfl⟩;(·intro wk hk;have:=hk.cell z0;have:=hk.cell l0;go_simp;try with_reducible rfl);simp only[kA];exact rfl);refine zN (zD ?_);go_wp2_with fail;go_ret
  exact⟨aa HE.out.symm,HF2.out.xt.trans kS⟩
 have hcb:(lp != s.num)=false:=by simp[hpn]
 have HPN:=zZ hpn;clear hpn;cases b with
 |false =>
  have HE:=zZ (show be s ⟨lp,lc,lg,lv⟩ ch=false from oU (HFD.out.2 rfl));refine zQ 99 fun wd kS=>?_;refine zS 20 [(0,18),(1,19),(2,20),(3,21),(4,22),(5,23),(6,24),(7,25),(8,26),(9,27),(10,28),(11,29),(12,30),(13,31),(14,32),(15,33),(16,34),(17,35),(18,36),(19,37)] kS ?_;iterate 10 (apply zT;exact⟨rfl,rfl⟩;(·intro wk hk;have:=hk.cell z0;have:=hk.cell l0;go_simp;try with_reducible rfl);simp only[kA];exact rfl)
  iterate 9 (apply zK;exact⟨rfl,rfl⟩;simp only[kA];exact rfl)
  (apply zT;exact⟨rfl,rfl⟩;(·intro wk hk;have:=hk.cell z0;have:=hk.cell l0;go_simp;try with_reducible rfl);simp only[kA];exact rfl);refine zN (zD ?_);go_wp2_with fail;go_ret
  exact⟨aa HE.out.symm,HF2.out.xt.trans kS⟩
 |true =>
  obtain⟨⟨xc,xe,xv⟩,hxi,hfx⟩:=HFD.out.1 rfl;have hiX:i<nX:=by have:=(zY.1 hxi).1;have:=HLX.out;omega
  obtain⟨bX,oX,_,_,rfl,-⟩:=HR0.out.2.2.1.at_ hiX;obtain⟨yc,ye,yv,HY,x0,x1,x2⟩:=d7.read HR0.out.2.2.1 HF2.out.xt.xt hiX;obtain⟨rfl,rfl,rfl⟩:xc=yc∧xe=ye∧xv=yv:=by have:=HY.out;rw[hxi]at this;injection this with this;injection this with a b c;exact⟨a,b,c⟩
  have HX:=zZ hfx;have hxm:=(bh hfx).1;have hxb:=fw HOK.out hxm;simp only at hxb;obtain⟨xb1,xb2,xb3,xb4,xb5,xb6⟩:=hxb;obtain⟨pq,bk,hpq,hbk,-,-,-,-⟩:=gQ HOK.out xb3 xb4;have hbks:=HOK.out.bks;obtain⟨r,rfl⟩:=zG xb3;rw[yR]at hpq hbk;have hrP:r<nP:=by have:=HLP.out;omega
  have hrB:r<nB:=by have:=HLB.out;omega
  clear hfx hxm HFD hxi HY x0 x1;by_cases hv:(r:Int)=lv;case neg =>
   have HE:=zZ (show be s ⟨lp,lc,lg,lv⟩ ch=false from rm HX.out hv);have hvb:((r:Int)!=lv)=true:=by simp[hv]
   replace hv:=zZ hv;refine zQ 99 fun wd kS=>?_;refine zS 20 [(0,18),(1,19),(2,20),(3,21),(4,22),(5,23),(6,24),(7,25),(8,26),(9,27),(10,28),(11,29),(12,30),(13,31),(14,32),(15,33),(16,34),(17,35),(18,36),(19,37)] kS ?_;iterate 20 (apply zT;exact⟨rfl,rfl⟩;(·intro wk hk;have:=hk.cell z0;have:=hk.cell z3;have:=hk.cell l0;have:=hk.cell l3;have:=hk.cell x2;go_simp;try with_reducible rfl);simp only[kA];exact rfl)
   refine zN (zD ?_);go_wp2_with fail;go_ret
   exact⟨aa HE.out.symm,HF2.out.xt.trans kS⟩
  subst hv;have hvb:((r:Int)!=(r:Int))=false:=by simp
  refine zQ 99 fun wd kS=>?_;refine zS 20 [(0,18),(1,19),(2,20),(3,21),(4,22),(5,23),(6,24),(7,25),(8,26),(9,27),(10,28),(11,29),(12,30),(13,31),(14,32),(15,33),(16,34),(17,35),(18,36),(19,37)] kS ?_;iterate 20 (apply zT;exact⟨rfl,rfl⟩;(·intro wk hk;have:=hk.cell z0;have:=hk.cell z3;have:=hk.cell l0;have:=hk.cell l3;have:=hk.cell x2;go_simp;try with_reducible rfl);simp only[kA];exact rfl)
  refine zN (zD ?_);have HF3:=bx (HF2.out.ext kS);clear kS HF2 z0 z1 z2 z3 l0 l1 l2 l3 x2 hvb;obtain⟨bP,oP,_,_,rfl,-⟩:=HR0.out.1.at_ hrP;obtain⟨bB,oB,_,_,rfl,-⟩:=HR0.out.2.1.at_ hrB;obtain⟨Ab,nb,cb,b0,hIB,HNB⟩:=dQ HR0.out.2.1 hbk HF3.out.xt.xt;obtain⟨Aq,nq,cq,q0,q1,q2,hIQ,hq1,hq2⟩:=gj HR0.out.1 hpq HF3.out.xt.xt;obtain⟨pc,pv,pps⟩:=pq;simp only at q0 q1 q2 hIQ hq1 hq2;have HF0:=zZ (show be s ⟨lp,lc,lg,(r:Int)⟩ ch=(decide (0≤lg∧lg<(bk.length:Int))&&(decide (ch.length=(aA pc pv pps bk lg).length)&&ch.all bd)) by rw[pL HX.out (by simp only[yR];exact hpq) (by simp only[yR];exact hbk),HPN.out,decide_eq_true rfl,decide_eq_true rfl,yU,yU])
  have HI:Bx (kr p wd (D Aq nq cq) pps∧kL p wd (D Ab nb cb) bk):=⟨⟨hIQ,hIB⟩⟩
  clear hpq hbk hbks hIQ hIB hq1 hq2;obtain⟨z0,z1,z2,z3⟩:=(HF3.out.at_ 0 rfl).p4 rfl;obtain⟨l0,l1,l2,l3⟩:=(HF3.out.at_ 1 rfl).p4 rfl;go_upto_region 5 with (fail)
  have hx4:ab wd (wd.alloc (.cells #[D Ab nb cb] 92)):=(zE _).alloc _;have HF4:Bx (ae w (wd.alloc (.cells #[D Ab nb cb] 92)) [(w.heap.size,#[B C s.num,D (some ⟨bP,oP,none⟩) nP cP,D (some ⟨bB,oB,none⟩) nB cB,D (some ⟨bX,oX,none⟩) nX cX],27),(w.heap.size+1,#[B C lp,B C lc,B C lg,B C (r:Int)],73),(wd.heap.size,#[D Ab nb cb],92)]):=⟨HF3.out.push _ _ rfl⟩
  have HI4:Bx (kr p (wd.alloc (.cells #[D Ab nb cb] 92)) (D Aq nq cq) pps∧kL p (wd.alloc (.cells #[D Ab nb cb] 92)) (D Ab nb cb) bk):=⟨HI.out.1.ext (aI.stab p) hx4,HI.out.2.ext (RI.stab p) hx4⟩
  replace q0:=hx4.cell q0;replace q1:=hx4.cell q1;replace q2:=hx4.cell q2;clear hx4 HI z0 z1 z2 z3 l0 l1 l2 l3 b0 HF3;obtain⟨w4,hw4⟩:=nm ((wd.alloc (.cells #[D Ab nb cb] 92)):World);rw[←hw4]at HF4 HI4 q0 q1 q2;rw[←hw4];clear hw4;obtain⟨gb,hgb⟩:=nm wd.heap.size;rw[←hgb]at HF4;rw[←hgb];clear hgb;obtain⟨z0,z1,z2,z3⟩:=(HF4.out.at_ 0 rfl).p4 rfl;obtain⟨l0,l1,l2,l3⟩:=(HF4.out.at_ 1 rfl).p4 rfl;have b0:=(HF4.out.at_ 2 rfl).c 0 rfl;by_cases hg0:0≤lg∧lg<(nb:Int)
  case neg =>
   have HE:=zZ (show be s ⟨lp,lc,lg,(r:Int)⟩ ch=false by rw[HF0.out,decide_eq_false (by have:=HNB.out;omega)];rfl);go_wp2_with fail;all_goals first
    |(exfalso;omega)
    |(go_ret;exact⟨aa HE.out.symm,HF4.out.xt⟩)
  obtain⟨hg1,hgn⟩:=hg0;have HF1:=zZ (show be s ⟨lp,lc,lg,(r:Int)⟩ ch=(decide (ch.length=(aA pc pv pps bk lg).length)&&ch.all bd) by rw[HF0.out,decide_eq_true (by have:=HNB.out;omega),yU]);have hgd:decide (lg<0)=false:=decide_eq_false (by omega);have hge:decide ((nb:Int)≤lg)=false:=decide_eq_false (by omega);go_upto_region 7 with (fail)
  refine zQ 99 fun we kS=>?_;refine zS 11 [(0,55),(1,56),(2,57),(3,58),(4,59),(5,60),(6,61),(7,62),(8,63),(9,64),(10,65)] kS ?_;iterate 11 (apply zT;exact⟨rfl,rfl⟩;(·intro wk hk;have:=hk.cell z1;have:=hk.cell l2;have:=hk.cell l3;have:=hk.cell q0;have:=hk.cell q1;have:=hk.cell q2;have:=hk.cell b0;go_simp;try with_reducible rfl);simp only[kA];exact rfl)
  refine zN (zO 11 (fun K hK=>?_));go_simp;refine (pF pc pv lg _ _ pps bk _ (p:=p) (zP hp (HF4.out.xt.trans kS).size) (HI4.out.1.ext (aI.stab p) kS) (HI4.out.2.ext (RI.stab p) kS) HLG.out).mono ?_;rintro e w6 ⟨v6,rfl,hI6,hx6⟩;have kS2:ab w4 w6:=kS.trans hx6;obtain⟨A6,n6,c6,rfl,-,-,hn6,HL6⟩:=hI6.open_;clear hI6;refine hK.out _ _ (fun _=>kS2) ?_;clear hK K;try simp only[kA]
  refine zS 1 [(12,67)] kS2 ?_;(apply zT;exact⟨rfl,rfl⟩;(·intro wk hk;have:=hk.cell z1;have:=hk.cell l2;have:=hk.cell l3;have:=hk.cell q0;have:=hk.cell q1;have:=hk.cell q2;have:=hk.cell b0;go_simp;try with_reducible rfl);simp only[kA];exact rfl);refine zN ?_;by_cases hln:nC=n6
  ·have HE:=zZ (show be s ⟨lp,lc,lg,(r:Int)⟩ ch=ch.all bd by rw[HF1.out,decide_eq_true (by have:=HLC.out;have:=HL6.out;omega),yU]);subst hln;have hnb:((nC:Int)!=(nC:Int))=false:=by simp
   refine zS 1 [(13,68)] kS2 ?_;(apply zT;exact⟨rfl,rfl⟩;(·intro wk hk;have:=hk.cell z1;have:=hk.cell l2;have:=hk.cell l3;have:=hk.cell q0;have:=hk.cell q1;have:=hk.cell q2;have:=hk.cell b0;go_simp;try with_reducible rfl);simp only[kA];exact rfl);refine zN (zD ?_);go_wp2_with fail;refine (m7 _ ch _ (HR0.out.2.2.2.ext (HF4.out.xt.trans kS2))).mono ?_;rintro e w7 ⟨rfl,rfl⟩;go_wp2_with fail;go_ret
   exact⟨aa (by rw[HE.out];exact AU bd ch),HF4.out.xt.trans kS2⟩
  ·have HE:=zZ (show be s ⟨lp,lc,lg,(r:Int)⟩ ch=false by rw[HF1.out,decide_eq_false (by have:=HLC.out;have:=HL6.out;omega)];rfl);have hne:((nC:Int)!=(n6:Int))=true:=by simp;omega
   refine zS 1 [(13,68)] kS2 ?_;(apply zT;exact⟨rfl,rfl⟩;(·intro wk hk;have:=hk.cell z1;have:=hk.cell l2;have:=hk.cell l3;have:=hk.cell q0;have:=hk.cell q1;have:=hk.cell q2;have:=hk.cell b0;go_simp;try with_reducible rfl);simp only[kA];exact rfl);refine zN (zD ?_);go_wp2_with fail;go_ret
   exact⟨aa HE.out.symm,HF4.out.xt.trans kS2⟩
theorem qG(v vc:Value)(s:aZ)(lp lc lg lv:Int)(ch:List Int)(w:World){q:Nat}(hp:p<w.heap.size)(hs:aN p w v s)(hc:ao q w vc ch)(hl:cU.wf ⟨lp,lc,lg,lv⟩) :
  Calls prog 69 #[v,.agg #[B C lp,B C lc,B C lg,B C lv],vc] w fun e w'=>e=.returned (.bool (da s ⟨lp,lc,lg,lv⟩ ch))∧ab w w':=by
 have HS0:=zZ hs;obtain⟨vP,vB,vX,rfl,hP,hB,hX,hnum⟩:=hs;obtain⟨AP,nP,cP,rfl,-⟩:=hP.open_;obtain⟨AB,nB,cB,rfl,-⟩:=hB.open_;obtain⟨AX,nX,cX,rfl,-⟩:=hX.open_;obtain⟨AC,nC,cC,rfl,-⟩:=hc.open_;have HC:=zZ hc;have HL:=zZ hl;clear hP hB hX hc hnum hl;obtain⟨w1,hw1⟩:=nm (((w.alloc (.cells #[B C s.num,D AP nP cP,D AB nB cB,D AX nX cX] 27)).alloc (.cells #[B C lp,B C lc,B C lg,B C lv] 73)):World);have HF:Bx (ae w w1 [(w.heap.size,#[B C s.num,D AP nP cP,D AB nB cB,D AX nX cX],27),(w.heap.size+1,#[B C lp,B C lc,B C lg,B C lv],73)]):=⟨by rw[hw1];exact ((ae.start w).push _ _ rfl).push _ _ (by simp)⟩
 obtain⟨z0,z1,z2,z3⟩:=(HF.out.at_ 0 rfl).p4 rfl;go_enter func69,ntmps69
 go_upto_region 1 with (fail)
 rw[←hw1];clear hw1;go_wp2_with fail;refine (qe _ s _ (HS0.out.ext HF.out.xt)).mono ?_;rintro e w2 ⟨rfl,hx2⟩;have HF2:=bx (HF.out.ext hx2);clear HF hx2 z0 z1 z2 z3;obtain⟨z0,z1,z2,z3⟩:=(HF2.out.at_ 0 rfl).p4 rfl;obtain⟨l0,l1,l2,l3⟩:=(HF2.out.at_ 1 rfl).p4 rfl;by_cases hck:aw s=0
 ·have HE:=zZ (show da s ⟨lp,lc,lg,lv⟩ ch=be s ⟨lp,lc,lg,lv⟩ ch by unfold da;rw[decide_eq_true hck];rfl);have HOK:Bx (cD s):=⟨eV.1 hck⟩
  rw[hck];clear hck;go_wp2_with fail;refine (zy _ _ s lp lc lg lv ch _ (p:=p) (q:=q) (zP hp HF2.out.xt.size) (HS0.out.ext HF2.out.xt) (HC.out.ext HF2.out.xt) HL.out HOK.out).mono ?_;rintro e w3 ⟨rfl,hx3⟩;go_wp2_with fail;go_ret
  exact⟨aa HE.out.symm,HF2.out.xt.trans hx3⟩
 ·have HE:=zZ (show da s ⟨lp,lc,lg,lv⟩ ch=false by unfold da;rw[decide_eq_false hck];rfl);have hcb:(aw s==0)=false:=by simp[hck]
  go_wp2_with fail;go_ret
  exact⟨aa HE.out.symm,HF2.out.xt⟩
def Hb(l:List aY)(id:jd):Option aY:=l.find? fun x=>decide (x.scan=id)
theorem pR(v:Value)(t:en)(si qi:Int)(w:World)(ht:bN p w v t) :
  Calls prog 73 #[v,.agg #[B C si,B C qi]] w fun e w'=>(∃x:aY,(Hb t.sts ⟨si,qi⟩).getD ⟨⟨0,0⟩,0,⟨0,0,0,0⟩⟩=x∧e=.returned (.tuple #[.agg x.cells.toArray,.bool (Hb t.sts ⟨si,qi⟩).isSome]))∧ab w w':=by
 obtain⟨vS,vG,rfl,hS,hG⟩:=ht;obtain⟨AG,nG,cG,rfl,-⟩:=hG.open_;obtain⟨A,n,c,rfl,hnc,hcc,hnn,HL⟩:=hS.open_;have HS:Bx (eF p w (D A n c) t.sts):=⟨hS⟩
 clear hS hG;have HF:Bx (ae w (((w.alloc (.cells #[D A n c,D AG nG cG] 31)).alloc (.cells #[B C si,B C qi] 71)).alloc (.cells #[B C 0,B C 0,B C 0,B C 0,B C 0,B C 0,B C 0] 75)) [(w.heap.size,#[D A n c,D AG nG cG],31),(w.heap.size+1,#[B C si,B C qi],71),(w.heap.size+1+1,#[B C 0,B C 0,B C 0,B C 0,B C 0,B C 0,B C 0],75)]):=⟨(((ae.start w).push _ _ rfl).push _ _ (by simp)).push _ _ (by simp)⟩
 go_enter func73,ntmps73
 go_upto_region 1 with (fail)
 obtain⟨w1,hw1⟩:=nm ((((w.alloc (.cells #[D A n c,D AG nG cG] 31)).alloc (.cells #[B C si,B C qi] 71)).alloc (.cells #[B C 0,B C 0,B C 0,B C 0,B C 0,B C 0,B C 0] 75)):World);rw[←hw1]at HF;rw[←hw1];clear hw1;go_wp2_with fail;go_loopw [6] (fun s6 wr=>∃k:Nat,s6=B C k∧k≤n∧Bx (ae w wr [(w.heap.size,#[D A n c,D AG nG cG],31),(w.heap.size+1,#[B C si,B C qi],71),(w.heap.size+1+1,#[B C 0,B C 0,B C 0,B C 0,B C 0,B C 0,B C 0],75)]∧∀(j:Nat) x,j<k→t.sts[j]?=some x→decide (x.scan=⟨si,qi⟩)=false)) (fun k _=>n-(intOf k).toNat)
 case atStart=>exact⟨0,rfl,by omega,⟨⟨HF.out,fun j x hj=>by omega⟩⟩⟩
 case round =>
  obtain⟨k,rfl,hk,HR⟩:=hrel;have HFr:Bx (ae w wr [(w.heap.size,#[D A n c,D AG nG cG],31),(w.heap.size+1,#[B C si,B C qi],71),(w.heap.size+1+1,#[B C 0,B C 0,B C 0,B C 0,B C 0,B C 0,B C 0],75)]):=⟨HR.out.1⟩
  have HN:Bx (∀(j:Nat) x,j<k→t.sts[j]?=some x→decide (x.scan=⟨si,qi⟩)=false):=⟨HR.out.2⟩
  have b0:=(HFr.out.at_ 0 rfl).c 0 rfl;clear HR HF;by_cases hkn:k<n
  ·obtain⟨b,off,_,_,rfl,-⟩:=HS.out.at_ hkn;obtain⟨cs,⟨⟨xs,xq⟩,xt,⟨xa,xb,xc,xd⟩⟩,-,hc0,⟨hcs,-⟩,HX⟩:=(HS.out.ext (cQ.stab p) HFr.out.xt).cell_ hkn;have x0:=hc0 0 (B C xs) (by rw[hcs];rfl);have x1:=hc0 1 (B C xq) (by rw[hcs];rfl);have x2:=hc0 2 (B C xt) (by rw[hcs];rfl);have x3:=hc0 3 (B C xa) (by rw[hcs];rfl);have x4:=hc0 4 (B C xb) (by rw[hcs];rfl);have x5:=hc0 5 (B C xc) (by rw[hcs];rfl);have x6:=hc0 6 (B C xd) (by rw[hcs];rfl);rw[yP]at x0;have kS:wr.drew.cell? ⟨w.heap.size,0,none⟩=some (D (some ⟨b,off,none⟩) n c)∧wr.drew.cell? ⟨b,off+k*7,none⟩=some (B C xs)∧wr.drew.cell? ⟨b,off+k*7+1,none⟩=some (B C xq)∧wr.drew.cell? ⟨w.heap.size+1,0,none⟩=some (B C si)∧wr.drew.cell? ⟨w.heap.size+1,1,none⟩=some (B C qi):=⟨b0,x0,x1,(HFr.out.drew.at_ 1 rfl).c 0 rfl,(HFr.out.drew.at_ 1 rfl).c 1 rfl⟩
   have HFd:Bx (ae w wr.drew [(w.heap.size,#[D (some ⟨b,off,none⟩) n c,D AG nG cG],31),(w.heap.size+1,#[B C si,B C qi],71),(w.heap.size+1+1,#[B C 0,B C 0,B C 0,B C 0,B C 0,B C 0,B C 0],75)]):=⟨HFr.out.drew⟩
   go_upto_region 4 with (fail)
   clear hc0 hcs;refine zR 99 (fun w'=>w'.cell? ⟨w.heap.size,0,none⟩=some (D (some ⟨b,off,none⟩) n c)∧w'.cell? ⟨b,off+k*7,none⟩=some (B C xs)∧w'.cell? ⟨b,off+k*7+1,none⟩=some (B C xq)∧w'.cell? ⟨w.heap.size+1,0,none⟩=some (B C si)∧w'.cell? ⟨w.heap.size+1,1,none⟩=some (B C qi)) ?_;have eL:∀W,(Op.equalIn 10000 71 (.agg #[B C xs,B C xq]) (.agg #[B C si,B C qi])).run prog W=.ok (decide (xs=si∧xq=qi)) W:=fun W=>rJ _ _ _ _ W;have gL:=li;by_cases h1:xs=si∧xq=qi
   ·rw[decide_eq_true h1]at eL;have HFD:Bx (Hb t.sts ⟨si,qi⟩=some ⟨⟨xs,xq⟩,xt,⟨xa,xb,xc,xd⟩⟩):=⟨by unfold Hb;exact iY HX.out (by rw[h1.1,h1.2];simp) fun j y hj hy=>HN.out j y hj hy⟩
    clear h1;refine zS 8 [(0,14),(1,15),(2,16),(3,17),(4,18),(5,19),(6,20),(7,21)] kS ?_;iterate 8 (apply zT;exact⟨rfl,rfl⟩;(·intro _ _;go_simp;try with_reducible rfl);simp only[kA];exact rfl)
    refine zN (zD ?_);clear kS eL gL b0;have b0:=(HFd.out.at_ 0 rfl).c 0 rfl;obtain⟨z0,z1,z2,z3,z4,z5,z6⟩:=(HFr.out.at_ 2 rfl).p7 rfl;have f0:=(HFr.out.at_ 2 rfl).froz;have f1:=f0;have f2:=f0;have f3:=f0;have f4:=f0;have f5:=f0;have f6:=f0;go_wp2_with fail;have h9:=(HFr.out.setAll 2 rfl [B C xs,B C xq,B C xt,B C xa,B C xb,B C xc,B C xd] rfl).drew;refine bodyPost_ret (v:=.tuple #[.agg #[B C xs,B C xq,B C xt,B C xa,B C xb,B C xc,B C xd],.bool true]) (by simp[results,results73,go_sem,z0,z1,z2,z3,z4,z5,z6]) rfl ⟨⟨⟨⟨xs,xq⟩,xt,⟨xa,xb,xc,xd⟩⟩,by rw[HFD.out];rfl,by rw[HFD.out];rfl⟩,h9.xt⟩
   ·rw[decide_eq_false h1]at eL;have HN1:=zZ h1;clear h1;refine zS 8 [(0,14),(1,15),(2,16),(3,17),(4,18),(5,19),(6,20),(7,21)] kS ?_;iterate 8 (apply zT;exact⟨rfl,rfl⟩;(·intro _ _;go_simp;try with_reducible rfl);simp only[kA];exact rfl)
    refine zN (zD ?_);clear kS eL gL;go_wp2_with fail;go_roundw
    case rel=>exact⟨k+1,by go_num,by omega,⟨⟨HFd.out,fun j y hj hy=>by rcases zV j k with h|h;exact HN.out j y h hy;obtain rfl:j=k:=(by omega);rw[HX.out]at hy;injection hy with hy;subst hy;exact decide_eq_false (fun e=>HN1.out (by injection e with e1 e2;exact⟨e1,e2⟩))⟩⟩⟩
    case measure=>simp[intOf];omega
  ·obtain rfl:k=n:=by omega
   have HFD:Bx (Hb t.sts ⟨si,qi⟩=none):=⟨by unfold Hb;exact lT fun j y hy=>HN.out j y (by have:=(zY.1 hy).1;have:=HL.out;omega) hy⟩
   obtain⟨z0,z1,z2,z3,z4,z5,z6⟩:=(HFr.out.at_ 2 rfl).p7 rfl;have f0:=(HFr.out.at_ 2 rfl).froz;have f1:=f0;have f2:=f0;have f3:=f0;have f4:=f0;have f5:=f0;have f6:=f0;go_wp2_with fail;have h9:=HFr.out.setAll 2 rfl [B C 0,B C 0,B C 0,B C 0,B C 0,B C 0,B C 0] rfl;refine bodyPost_ret (v:=.tuple #[.agg #[B C 0,B C 0,B C 0,B C 0,B C 0,B C 0,B C 0],.bool false]) (by simp[results,results73,go_sem,z0,z1,z2,z3,z4,z5,z6]) rfl ⟨⟨⟨⟨0,0⟩,0,⟨0,0,0,0⟩⟩,by rw[HFD.out];rfl,by rw[HFD.out];rfl⟩,h9.xt⟩
theorem nk(v:Value)(l:List Int)(x:Int)(w:World)(h:ao p w v l) :
  Calls prog 104 #[v,B C x] w fun e w'=>e=.returned (.bool (kO x l))∧w=w':=by
 obtain⟨A,n,c,rfl,hnc,hc,hnn,HL⟩:=h.open_;have H:=zZ h;clear h;go_enter func104,ntmps104
 go_wp2
 go_loop [5] (fun i=>∃k:Nat,k≤n∧i=B C k∧Hid (ig (fun y=>decide (y=x)) l k)) (fun i=>n-(intOf i).toNat)
 case atStart=>exact⟨0,yK _,rfl,ig.zero _ _⟩
 case round =>
  obtain⟨k,hk,rfl,HK⟩:=hrel;by_cases hlt:k<n
  ·obtain⟨b,off,y,rfl,hcy,HY,hy1,hy2⟩:=H.out.at_ hlt;by_cases e:y=x
   ·have e1:(y==x)=true:=by simp[e]
    have E:=zZ e;clear e;go_wp2
    go_ret
    exact⟨aa (FC HY.out (by simp[E.out])),rfl⟩
   ·have e1:(y==x)=false:=by simp[e]
    have E:=zZ e;clear e;go_wp2
    go_round
    case rel=>exact⟨k+1,by omega,by go_num,HK.out.succ HY.out (by simp;exact E.out)⟩
    case measure=>simp[intOf];omega
  ·obtain rfl:k=n:=by omega
   go_wp2
   go_ret
   exact⟨aa (DF HL.out HK.out),rfl⟩
theorem tv(v:Value)(pgs:List (List Int))(x:Int)(w:World)(h:kL p w v pgs) :
  Calls prog 80 #[.agg #[v],B C x] w fun e w'=>e=.returned (B C (dC pgs x))∧ab w w':=by
 obtain⟨A,n,c,rfl,hnc,hc',hnn,HL⟩:=h.open_;have HE:Hid (ab w (w.alloc (.cells #[D A n c] 92))):=(zE _).alloc _;have H:=zZ (h.ext (RI.stab p) HE.out);clear h;go_enter func80,ntmps80
 go_wp2_with fail;go_loop [5] (fun i=>∃k:Nat,k≤n∧i=B C k∧Hid (ig (kO x) pgs k)) (fun i=>n-(intOf i).toNat)
 case atStart=>exact⟨0,yK _,rfl,ig.zero _ _⟩
 case round =>
  obtain⟨k,hk,rfl,HK⟩:=hrel;by_cases hlt:k<n
  ·obtain⟨b,off,cs0,l0,rfl,_⟩:=H.out.at_ hlt;obtain⟨u,l,hcu,hIu,HX⟩:=H.out.page hlt;have HIU:=zZ hIu;clear hIu;cases hb:kO x l with
   |true =>
    have HBb:=zZ hb;clear hb;go_wp2_with fail;refine (nk _ l x _ HIU.out).mono ?_;rintro e w' ⟨rfl,rfl⟩;rw[HBb.out];go_wp2_with fail;go_ret
    exact⟨ah (uV HX.out HBb.out HK.out),HE.out⟩
   |false =>
    have HBb:=zZ hb;clear hb;go_wp2_with fail;refine (nk _ l x _ HIU.out).mono ?_;rintro e w' ⟨rfl,rfl⟩;rw[HBb.out];go_wp2_with fail;go_round
    case rel=>exact⟨k+1,by omega,by go_num,HK.out.succ HX.out HBb.out⟩
    case measure=>simp[intOf];omega
  ·obtain rfl:k=n:=by omega
   go_wp2_with fail;go_ret
   exact⟨ah (Cr HL.out HK.out),HE.out⟩
end Go.Proofs.YtjgfgdcaocbfhaaGreat

