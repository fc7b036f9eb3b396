import Derived.Test.YtjgfgdcaocbfhaaGreatH17
set_option linter.all false
set_option maxRecDepth 100000
set_option maxHeartbeats 0
namespace Go.Proofs.YtjgfgdcaocbfhaaGreat
open Go.RowKit _root_.Go.Proofs.Tryz
variable {a c f k n o p size t:Nat} {w:World} {v:Value} {lead x y:Int} {l:List Int}
theorem Tryz.infoSst:(prog.info? 75).map (fun i=>(i.zero,i.size,i.bytes))=some (some (.agg #[.int .i64 0,.int .i64 0,.int .i64 0,.int .i64 0,.int .i64 0,.int .i64 0,.int .i64 0]),7,56):=by kernel_rfl
theorem Tryz.infoPg:(prog.info? 77).map (fun i=>(i.zero,i.size,i.bytes))=some (some (.agg #[.int .i64 0,.int .i64 0,.int .i64 0,.slice none 0 0,.int .i64 0,.int .i64 0]),6,64):=by kernel_rfl
theorem GA{α:Type}{R:World→List Value→α→Prop}{A:Option Addr}{xs:List α}(h:bg p size R w (.slice A n c) xs)(hk:k≤n)(hc:¬c=k):bg p size R w (.slice (A.map fun x=>x.add (k*size)) (n-k) (c-k)) (xs.drop k):=by have:=h.drop hk;rwa [if_neg hc]at this
theorem Gu{α:Type}{R:World→List Value→α→Prop}{A:Option Addr}{xs:List α}(h:bg p size R w (.slice A k c) xs):bg p size R w (.slice (if c=k then A else A.map fun x=>x.add (k*size)) 0 (c-k)) (xs.drop k):=by have:=h.drop (zX k);rwa [Nat.sub_self]at this
theorem nA(w:World):∀cs x,cQ w cs x→∀u∈cs,u.oneCell'=true:=by rintro cs x ⟨rfl,-⟩ u hu;simp only[aY.cells,yG,wK,or_false]at hu;rcases hu with rfl|rfl|rfl|rfl|rfl|rfl|rfl<;>rfl
theorem rN(p:Nat)(w:World):∀cs x,j3 p w cs x→∀u∈cs,u.oneCell'=true:=by rintro cs x ⟨v,rfl,⟨A,c,rfl,-⟩,-⟩ u hu;simp only[Pg.cells,yG,wK,or_false]at hu;rcases hu with rfl|rfl|rfl|rfl|rfl|rfl<;>rfl
theorem mR(v:Value)(l:List aY)(xs xq xt xa xb xc xd:Int)(w:World)(hv:eF p w v l)(hx:aY.wf ⟨⟨xs,xq⟩,xt,⟨xa,xb,xc,xd⟩⟩)(hn:l.length≤1000) :
  Calls prog 61 #[v,.agg #[.int .i64 xs,.int .i64 xq,.int .i64 xt,.int .i64 xa,.int .i64 xb,.int .i64 xc,.int .i64 xd]] w fun e w'=>∃vo:Value,e=.returned vo∧ay w.heap.size 75 7 (cQ w) w' vo (gF aW ⟨⟨xs,xq⟩,xt,⟨xa,xb,xc,xd⟩⟩ l)∧ab w w':=by
 obtain⟨A,n,c,rfl,hnc,hcc,hnn,HL⟩:=hv.open_;obtain⟨iC,hiC,hC0,hC1,hC2⟩:=info_parts Tryz.infoSst;have HX:Bx (aY.wf ⟨⟨xs,xq⟩,xt,⟨xa,xb,xc,xd⟩⟩):=⟨hx⟩
 have hn3:n≤1000:=by have:=HL.out;omega
 have HV:Bx (eF p w (.slice A n c) l):=⟨hv⟩
 have HW:Bx (bg p 7 (fun _=>cQ w) w (.slice A n c) l):=⟨hv⟩
 have HF:Bx (ae w (w.alloc (.cells #[.int .i64 xs,.int .i64 xq,.int .i64 xt,.int .i64 xa,.int .i64 xb,.int .i64 xc,.int .i64 xd] 75)) [(w.heap.size,#[.int .i64 xs,.int .i64 xq,.int .i64 xt,.int .i64 xa,.int .i64 xb,.int .i64 xc,.int .i64 xd],75)]):=⟨(ae.start w).push _ _ rfl⟩
 clear hv hn hx;go_enter func61,ntmps61
 go_upto_region 1 with (fail)
 obtain⟨w1,hw1⟩:=nm ((w.alloc (.cells #[.int .i64 xs,.int .i64 xq,.int .i64 xt,.int .i64 xa,.int .i64 xb,.int .i64 xc,.int .i64 xd] 75)):World);rw[←hw1]at HF;rw[←hw1];clear hw1;go_wp2_with fail;go_loopw [5] (fun s5 wr=>∃k:Nat,s5=.int .i64 k∧k≤n∧Bx (ae w wr [(w.heap.size,#[.int .i64 xs,.int .i64 xq,.int .i64 xt,.int .i64 xa,.int .i64 xb,.int .i64 xc,.int .i64 xd],75)]∧∀(j:Nat) y,j<k→l[j]?=some y→aW y ⟨⟨xs,xq⟩,xt,⟨xa,xb,xc,xd⟩⟩=true)) (fun k _=>n-(intOf k).toNat)
 case atStart=>exact⟨0,rfl,by omega,⟨⟨HF.out,fun j y hj=>by omega⟩⟩⟩
 case round =>
  obtain⟨k,rfl,hk,HR⟩:=hrel;have HFd:Bx (ae w wr.drew [(w.heap.size,#[.int .i64 xs,.int .i64 xq,.int .i64 xt,.int .i64 xa,.int .i64 xb,.int .i64 xc,.int .i64 xd],75)]):=⟨HR.out.1.drew⟩
  have HA:Bx (∀(j:Nat) y,j<k→l[j]?=some y→aW y ⟨⟨xs,xq⟩,xt,⟨xa,xb,xc,xd⟩⟩=true):=⟨HR.out.2⟩
  clear HR;by_cases hkn:k<n
  ·obtain⟨b,off,_,_,rfl,-⟩:=HV.out.at_ hkn;obtain⟨cs,⟨⟨ys,yq⟩,yt,⟨ya,yb,yc,yd⟩⟩,-,hc0,⟨hcs,-⟩,HY⟩:=(HV.out.ext (cQ.stab p) HFd.out.xt).cell_ hkn;have y0:=hc0 0 (.int .i64 ys) (by rw[hcs];rfl);have y1:=hc0 1 (.int .i64 yq) (by rw[hcs];rfl);rw[yP]at y0;have kS:wr.drew.cell? ⟨b,off+k*7,none⟩=some (.int .i64 ys)∧wr.drew.cell? ⟨b,off+k*7+1,none⟩=some (.int .i64 yq)∧wr.drew.cell? ⟨w.heap.size,0,none⟩=some (.int .i64 xs)∧wr.drew.cell? ⟨w.heap.size,1,none⟩=some (.int .i64 xq):=⟨y0,y1,(HFd.out.at_ 0 rfl).c 0 rfl,(HFd.out.at_ 0 rfl).c 1 rfl⟩
   clear hc0 hcs y0 y1;go_upto_region 2 with (fail)
   refine zR 99 (fun w'=>w'.cell? ⟨b,off+k*7,none⟩=some (.int .i64 ys)∧w'.cell? ⟨b,off+k*7+1,none⟩=some (.int .i64 yq)∧w'.cell? ⟨w.heap.size,0,none⟩=some (.int .i64 xs)∧w'.cell? ⟨w.heap.size,1,none⟩=some (.int .i64 xq)) ?_;refine zS 12 [(0,7),(1,8),(2,9),(3,10),(4,11),(5,12),(6,13),(7,14),(8,15),(9,16),(10,17),(11,18)] kS ?_;iterate 12 (apply zT;exact⟨rfl,rfl⟩;(·intro _ _;go_simp;try with_reducible rfl);simp only[kA];exact rfl)
   refine zN (zO 12 (fun K hK=>?_));go_simp;refine (mK ys yq xs xq _).mono ?_;rintro e w3 ⟨rfl,hx3⟩;have HF3:=bx (HFd.out.ext hx3);have kS2:w3.cell? ⟨b,off+k*7,none⟩=some (.int .i64 ys)∧w3.cell? ⟨b,off+k*7+1,none⟩=some (.int .i64 yq)∧w3.cell? ⟨w.heap.size,0,none⟩=some (.int .i64 xs)∧w3.cell? ⟨w.heap.size,1,none⟩=some (.int .i64 xq):=⟨hx3.cell kS.1,hx3.cell kS.2.1,hx3.cell kS.2.2.1,hx3.cell kS.2.2.2⟩
   clear hx3 kS HFd;cases hlt:gY ⟨ys,yq⟩ ⟨xs,xq⟩ with
   |true =>
    replace hlt:=zZ hlt;refine hK.out _ _ (fun _=>(kS2)) ?_;clear hK K;try simp only[kA]
    refine zS 1 [(13,20)] kS2 ?_;(apply zT;exact⟨rfl,rfl⟩;(·intro _ _;go_simp;try with_reducible rfl);simp only[kA];exact rfl);refine zN (zD ?_);clear kS2;go_wp2_with fail;go_roundw
    case rel=>exact⟨k+1,by go_num,by omega,⟨⟨HF3.out,fun j y hj hy=>by rcases zV j k with h|h;exact HA.out j y h hy;obtain rfl:j=k:=(by omega);rw[HY.out]at hy;injection hy with hy;subst hy;exact hlt.out⟩⟩⟩
    case measure=>simp[intOf];omega
   |false =>
    replace hlt:=zZ hlt;refine hK.out _ _ (fun _=>(kS2)) ?_;clear hK K;try simp only[kA]
    refine zS 1 [(13,20)] kS2 ?_;(apply zT;exact⟨rfl,rfl⟩;(·intro _ _;go_simp;try with_reducible rfl);simp only[kA];exact rfl);refine zN (zD ?_);clear kS2;obtain⟨Az,hAz⟩:=nm (some ⟨b,off,none⟩:Option Addr);rw[←hAz]at HV HW;rw[←hAz];clear hAz;have HB:Bx (∀y,l[k]?=some y→aW y (⟨⟨xs,xq⟩,xt,⟨xa,xb,xc,xd⟩⟩:aY)=false):=⟨fun y hy=>by rw[HY.out]at hy;injection hy with hy;subst hy;exact hlt.out⟩
    have HI9:=zZ (jK HA.out HB.out (by have:=HL.out;omega));have HT:=zZ ((HW.out.ext (fun _ _ _ _ h _=>h) HF3.out.xt).take hk);go_wp2_with (first
     |(at_builtin;(refine dw _ rfl (.tmp 23) (.tmp 26) 28 rfl w.heap.size 75 iC _ 7 56 underlying28 hiC hC0 hC1 hC2 rfl (by omega) (cQ w) (nA w) (.slice none 0 0) [] rfl ay.nil p _ k c (l.take k) rfl HT.out (by simp;omega) (by omega) (HF3.out.xt.size) ?_;intro v4 w4 hown4 hg4;have HO4:Bx (ay w.heap.size 75 7 (cQ w) w4 v4 (l.take k)):=⟨hown4⟩;have HF4:=zZ (HF3.out.grown hg4 (by simp[Value.ownBlock]) (by simp[Value.ownBlock]));clear hown4 hg4;have z0:=(HF4.out.at_ 0 rfl).c 0 rfl;have z1:=(HF4.out.at_ 0 rfl).c 1 rfl;have z2:=(HF4.out.at_ 0 rfl).c 2 rfl;have z3:=(HF4.out.at_ 0 rfl).c 3 rfl;have z4:=(HF4.out.at_ 0 rfl).c 4 rfl;have z5:=(HF4.out.at_ 0 rfl).c 5 rfl;have z6:=(HF4.out.at_ 0 rfl).c 6 rfl))
     |(at_builtin;(refine fW _ rfl (.tmp 28) (.tmp 30) 28 rfl w.heap.size 75 iC _ 7 56 underlying28 hiC hC0 hC1 hC2 rfl (by omega) (cQ w) v4 (l.take k) rfl (HO4.out.ext ((zE _).alloc _)) _ #[.int .i64 xs,.int .i64 xq,.int .i64 xt,.int .i64 xa,.int .i64 xb,.int .i64 xc,.int .i64 xd] _ (⟨⟨xs,xq⟩,xt,⟨xa,xb,xc,xd⟩⟩:aY) rfl (heap_alloc_new _ _) rfl (by simp[Value.oneCell']) ⟨rfl,HX.out⟩ (by rw[zF];omega) (by omega) (by have:=HF4.out.xt.size;simp;omega) ?_;intro v5 w5 hown5 hg5;have HO5:Bx (ay w.heap.size 75 7 (cQ w) w5 v5 (l.take k++[(⟨⟨xs,xq⟩,xt,⟨xa,xb,xc,xd⟩⟩:aY)])):=⟨hown5⟩;have HE5:Bx (ab w w5):=⟨(HF4.out.xt.alloc _).grown hg5 HO4.out.ge⟩;have HD:=zZ (GA (HW.out.ext (fun _ _ _ _ h _=>h) HE5.out) hk (by omega));clear hown5 hg5))
     |(at_builtin;go_loud (refine dw _ rfl (.tmp 32) (.tmp 35) 28 rfl w.heap.size 75 iC _ 7 56 underlying28 hiC hC0 hC1 hC2 rfl (by omega) (cQ w) (nA w) v5 _ rfl HO5.out p _ (n-k) (c-k) (l.drop k) rfl HD.out (by simp[zF];omega) (by omega) (HE5.out.size) ?_;intro v6 w6 hown6 hg6;have HO6:Bx (ay w.heap.size 75 7 (cQ w) w6 v6 (l.take k++[(⟨⟨xs,xq⟩,xt,⟨xa,xb,xc,xd⟩⟩:aY)]++l.drop k)):=⟨hown6⟩;have HE6:Bx (ab w w6):=⟨HE5.out.grown hg6 HO5.out.ge⟩;clear hown6 hg6)))
    all_goals (go_ret;exact⟨v6,rfl,HI9.out▸HO6.out,HE6.out⟩)
  ·obtain rfl:k=n:=by omega
   have kS:True:=trivial;go_upto_region 2 with (fail)
   refine zR 99 (fun _=>True) ?_;refine zS 5 [(0,7),(1,8),(2,9),(3,10),(4,11)] kS ?_;iterate 5 (apply zT;exact⟨rfl,rfl⟩;(·intro _ _;go_simp;try with_reducible rfl);simp only[kA];exact rfl)
   refine zN (zS 8 [(5,12),(6,13),(7,14),(8,15),(9,16),(10,17),(11,18),(12,19)] kS ?_);iterate 8 (apply zK;exact⟨rfl,rfl⟩;simp only[kA];exact rfl)
   refine zN (zS 1 [(13,20)] kS ?_);(apply zT;exact⟨rfl,rfl⟩;(·intro _ _;go_simp;try with_reducible rfl);simp only[kA];exact rfl);refine zN (zD ?_);clear kS;have HB:Bx (∀y,l[k]?=some y→aW y (⟨⟨xs,xq⟩,xt,⟨xa,xb,xc,xd⟩⟩:aY)=false):=⟨fun y hy=>by have:=(zY.1 hy).1;have:=HL.out;omega⟩
   have HI9:=zZ (jK HA.out HB.out (by have:=HL.out;omega));have HT:=zZ ((HW.out.ext (fun _ _ _ _ h _=>h) HFd.out.xt).take hk);go_wp2_with (first
    |(at_builtin;(refine dw _ rfl (.tmp 23) (.tmp 26) 28 rfl w.heap.size 75 iC _ 7 56 underlying28 hiC hC0 hC1 hC2 rfl (by omega) (cQ w) (nA w) (.slice none 0 0) [] rfl ay.nil p _ k c (l.take k) rfl HT.out (by simp;omega) (by omega) (HFd.out.xt.size) ?_;intro v4 w4 hown4 hg4;have HO4:Bx (ay w.heap.size 75 7 (cQ w) w4 v4 (l.take k)):=⟨hown4⟩;have HF4:=zZ (HFd.out.grown hg4 (by simp[Value.ownBlock]) (by simp[Value.ownBlock]));clear hown4 hg4;have z0:=(HF4.out.at_ 0 rfl).c 0 rfl;have z1:=(HF4.out.at_ 0 rfl).c 1 rfl;have z2:=(HF4.out.at_ 0 rfl).c 2 rfl;have z3:=(HF4.out.at_ 0 rfl).c 3 rfl;have z4:=(HF4.out.at_ 0 rfl).c 4 rfl;have z5:=(HF4.out.at_ 0 rfl).c 5 rfl;have z6:=(HF4.out.at_ 0 rfl).c 6 rfl))
    |(at_builtin;(refine fW _ rfl (.tmp 28) (.tmp 30) 28 rfl w.heap.size 75 iC _ 7 56 underlying28 hiC hC0 hC1 hC2 rfl (by omega) (cQ w) v4 (l.take k) rfl (HO4.out.ext ((zE _).alloc _)) _ #[.int .i64 xs,.int .i64 xq,.int .i64 xt,.int .i64 xa,.int .i64 xb,.int .i64 xc,.int .i64 xd] _ (⟨⟨xs,xq⟩,xt,⟨xa,xb,xc,xd⟩⟩:aY) rfl (heap_alloc_new _ _) rfl (by simp[Value.oneCell']) ⟨rfl,HX.out⟩ (by rw[zF];omega) (by omega) (by have:=HF4.out.xt.size;simp;omega) ?_;intro v5 w5 hown5 hg5;have HO5:Bx (ay w.heap.size 75 7 (cQ w) w5 v5 (l.take k++[(⟨⟨xs,xq⟩,xt,⟨xa,xb,xc,xd⟩⟩:aY)])):=⟨hown5⟩;have HE5:Bx (ab w w5):=⟨(HF4.out.xt.alloc _).grown hg5 HO4.out.ge⟩;have HD:=zZ (Gu (HW.out.ext (fun _ _ _ _ h _=>h) HE5.out));clear hown5 hg5))
    |(at_builtin;go_loud (refine dw _ rfl (.tmp 32) (.tmp 35) 28 rfl w.heap.size 75 iC _ 7 56 underlying28 hiC hC0 hC1 hC2 rfl (by omega) (cQ w) (nA w) v5 _ rfl HO5.out p _ 0 (c-k) (l.drop k) rfl HD.out (by simp[zF];omega) (by omega) (HE5.out.size) ?_;intro v6 w6 hown6 hg6;have HO6:Bx (ay w.heap.size 75 7 (cQ w) w6 v6 (l.take k++[(⟨⟨xs,xq⟩,xt,⟨xa,xb,xc,xd⟩⟩:aY)]++l.drop k)):=⟨hown6⟩;have HE6:Bx (ab w w6):=⟨HE5.out.grown hg6 HO5.out.ge⟩;clear hown6 hg6)))
   all_goals (go_ret;exact⟨v6,rfl,HI9.out▸HO6.out,HE6.out⟩)
theorem bg.map_{α:Type}{R:List Value→α→Prop}{R':World→List Value→α→Prop}{xs:List α}(h:bg p size (fun _=>R) w v xs)(hR:∀cs x,R cs x→R' w cs x):bg p size R' w v xs:=by obtain⟨A,c,hv,h1,h2,h4⟩:=h;refine⟨A,c,hv,h1,h2,fun k x hx=>?_⟩;obtain⟨b,off,cs,a1,a2,a3,a4,a5⟩:=h4 k x hx;exact⟨b,off,cs,a1,a2,a3,a4,hR _ _ a5⟩
theorem o8(R:List Value→Pg→Prop)(v:Value)(l:List Pg)(xc xg xt xs xq:Int)(Ax:Option Addr)(nx cx:Nat)(ch:List Int)(w:World)(hR:∀cs x,R cs x→j3 p w cs x)(hv:bg p 6 (fun _=>R) w v l)(hx:R [.int .i64 xc,.int .i64 xg,.int .i64 xt,.slice Ax nx cx,.int .i64 xs,.int .i64 xq] ⟨xc,xg,xt,ch,⟨xs,xq⟩⟩)(hn:l.length≤1000) :
  Calls prog 62 #[v,.agg #[.int .i64 xc,.int .i64 xg,.int .i64 xt,.slice Ax nx cx,.int .i64 xs,.int .i64 xq]] w fun e w'=>∃vo:Value,e=.returned vo∧ay w.heap.size 77 6 R w' vo (gF cM ⟨xc,xg,xt,ch,⟨xs,xq⟩⟩ l)∧ab w w':=by
 have hv0:ke p w v l:=hv.map_ hR;obtain⟨A,n,c,rfl,hnc,hcc,hnn,HL⟩:=hv.open_;obtain⟨iC,hiC,hC0,hC1,hC2⟩:=info_parts Tryz.infoPg;have HX:Bx (R [.int .i64 xc,.int .i64 xg,.int .i64 xt,.slice Ax nx cx,.int .i64 xs,.int .i64 xq] ⟨xc,xg,xt,ch,⟨xs,xq⟩⟩):=⟨hx⟩
 have hn3:n≤1000:=by have:=HL.out;omega
 have HV:Bx (ke p w (.slice A n c) l):=⟨hv0⟩
 have HW:Bx (bg p 6 (fun _=>R) w (.slice A n c) l):=⟨hv⟩
 have HF:Bx (ae w (w.alloc (.cells #[.int .i64 xc,.int .i64 xg,.int .i64 xt,.slice Ax nx cx,.int .i64 xs,.int .i64 xq] 77)) [(w.heap.size,#[.int .i64 xc,.int .i64 xg,.int .i64 xt,.slice Ax nx cx,.int .i64 xs,.int .i64 xq],77)]):=⟨(ae.start w).push _ _ rfl⟩
 clear hv hv0 hn hx;go_enter func62,ntmps62
 go_upto_region 1 with (fail)
 obtain⟨w1,hw1⟩:=nm ((w.alloc (.cells #[.int .i64 xc,.int .i64 xg,.int .i64 xt,.slice Ax nx cx,.int .i64 xs,.int .i64 xq] 77)):World);rw[←hw1]at HF;rw[←hw1];clear hw1;go_wp2_with fail;go_loopw [5] (fun s5 wr=>∃k:Nat,s5=.int .i64 k∧k≤n∧Bx (ae w wr [(w.heap.size,#[.int .i64 xc,.int .i64 xg,.int .i64 xt,.slice Ax nx cx,.int .i64 xs,.int .i64 xq],77)]∧∀(j:Nat) y,j<k→l[j]?=some y→cM y ⟨xc,xg,xt,ch,⟨xs,xq⟩⟩=true)) (fun k _=>n-(intOf k).toNat)
 case atStart=>exact⟨0,rfl,by omega,⟨⟨HF.out,fun j y hj=>by omega⟩⟩⟩
 case round =>
  obtain⟨k,rfl,hk,HR⟩:=hrel;have HFd:Bx (ae w wr.drew [(w.heap.size,#[.int .i64 xc,.int .i64 xg,.int .i64 xt,.slice Ax nx cx,.int .i64 xs,.int .i64 xq],77)]):=⟨HR.out.1.drew⟩
  have HA:Bx (∀(j:Nat) y,j<k→l[j]?=some y→cM y ⟨xc,xg,xt,ch,⟨xs,xq⟩⟩=true):=⟨HR.out.2⟩
  clear HR;by_cases hkn:k<n
  ·obtain⟨b,off,_,_,rfl,-⟩:=HV.out.at_ hkn;obtain⟨cs,⟨yc,yg,yt,ych,⟨ys,yq⟩⟩,-,hc0,⟨uy,hcs,⟨Ay,cy,huy,-⟩,-⟩,HY⟩:=(HV.out.ext (j3.stab p) HFd.out.xt).cell_ hkn;subst huy;obtain⟨ny,hny⟩:=nm (ych.length:Nat);rw[show ({cand:=yc,page:=yg,cont:=yt,ch:=ych,scan:=⟨ys,yq⟩}:Pg).ch.length=ny from hny.symm]at hcs;have y0:=hc0 0 (.int .i64 yc) (by rw[hcs];rfl);have y1:=hc0 1 (.int .i64 yg) (by rw[hcs];rfl);have y2:=hc0 2 (.int .i64 yt) (by rw[hcs];rfl);have y3:=hc0 3 (.slice Ay ny cy) (by rw[hcs];rfl);have y4:=hc0 4 (.int .i64 ys) (by rw[hcs];rfl);have y5:=hc0 5 (.int .i64 yq) (by rw[hcs];rfl);rw[yP]at y0;have kS:wr.drew.cell? ⟨b,off+k*6,none⟩=some (.int .i64 yc)∧wr.drew.cell? ⟨b,off+k*6+1,none⟩=some (.int .i64 yg)∧wr.drew.cell? ⟨b,off+k*6+2,none⟩=some (.int .i64 yt)∧wr.drew.cell? ⟨b,off+k*6+3,none⟩=some (.slice Ay ny cy)∧wr.drew.cell? ⟨b,off+k*6+4,none⟩=some (.int .i64 ys)∧wr.drew.cell? ⟨b,off+k*6+5,none⟩=some (.int .i64 yq)∧wr.drew.cell? ⟨w.heap.size,0,none⟩=some (.int .i64 xc)∧wr.drew.cell? ⟨w.heap.size,1,none⟩=some (.int .i64 xg)∧wr.drew.cell? ⟨w.heap.size,2,none⟩=some (.int .i64 xt)∧wr.drew.cell? ⟨w.heap.size,3,none⟩=some (.slice Ax nx cx)∧wr.drew.cell? ⟨w.heap.size,4,none⟩=some (.int .i64 xs)∧wr.drew.cell? ⟨w.heap.size,5,none⟩=some (.int .i64 xq):=⟨y0,y1,y2,y3,y4,y5,(HFd.out.at_ 0 rfl).c 0 rfl,(HFd.out.at_ 0 rfl).c 1 rfl,(HFd.out.at_ 0 rfl).c 2 rfl,(HFd.out.at_ 0 rfl).c 3 rfl,(HFd.out.at_ 0 rfl).c 4 rfl,(HFd.out.at_ 0 rfl).c 5 rfl⟩
   clear hc0 hcs hny y0 y1 y2 y3 y4 y5;go_upto_region 2 with (fail)
   refine zR 99 (fun w'=>w'.cell? ⟨b,off+k*6,none⟩=some (.int .i64 yc)∧w'.cell? ⟨b,off+k*6+1,none⟩=some (.int .i64 yg)∧w'.cell? ⟨b,off+k*6+2,none⟩=some (.int .i64 yt)∧w'.cell? ⟨b,off+k*6+3,none⟩=some (.slice Ay ny cy)∧w'.cell? ⟨b,off+k*6+4,none⟩=some (.int .i64 ys)∧w'.cell? ⟨b,off+k*6+5,none⟩=some (.int .i64 yq)∧w'.cell? ⟨w.heap.size,0,none⟩=some (.int .i64 xc)∧w'.cell? ⟨w.heap.size,1,none⟩=some (.int .i64 xg)∧w'.cell? ⟨w.heap.size,2,none⟩=some (.int .i64 xt)∧w'.cell? ⟨w.heap.size,3,none⟩=some (.slice Ax nx cx)∧w'.cell? ⟨w.heap.size,4,none⟩=some (.int .i64 xs)∧w'.cell? ⟨w.heap.size,5,none⟩=some (.int .i64 xq)) ?_;refine zS 10 [(0,7),(1,8),(2,9),(3,10),(4,11),(5,12),(6,13),(7,14),(8,15),(9,16)] kS ?_;iterate 10 (apply zT;exact⟨rfl,rfl⟩;(·intro _ _;go_simp;try with_reducible rfl);simp only[kA];exact rfl)
   refine zN (zO 10 (fun K hK=>?_));go_simp;refine (lB yc yg yt ys yq xc xg xt xs xq Ay Ax ny cy nx cx _).mono ?_;rintro e w3 ⟨rfl,hx3⟩;have HF3:=bx (HFd.out.ext hx3);have kS2:w3.cell? ⟨b,off+k*6,none⟩=some (.int .i64 yc)∧w3.cell? ⟨b,off+k*6+1,none⟩=some (.int .i64 yg)∧w3.cell? ⟨b,off+k*6+2,none⟩=some (.int .i64 yt)∧w3.cell? ⟨b,off+k*6+3,none⟩=some (.slice Ay ny cy)∧w3.cell? ⟨b,off+k*6+4,none⟩=some (.int .i64 ys)∧w3.cell? ⟨b,off+k*6+5,none⟩=some (.int .i64 yq)∧w3.cell? ⟨w.heap.size,0,none⟩=some (.int .i64 xc)∧w3.cell? ⟨w.heap.size,1,none⟩=some (.int .i64 xg)∧w3.cell? ⟨w.heap.size,2,none⟩=some (.int .i64 xt)∧w3.cell? ⟨w.heap.size,3,none⟩=some (.slice Ax nx cx)∧w3.cell? ⟨w.heap.size,4,none⟩=some (.int .i64 xs)∧w3.cell? ⟨w.heap.size,5,none⟩=some (.int .i64 xq):=⟨hx3.cell kS.1,hx3.cell kS.2.1,hx3.cell kS.2.2.1,hx3.cell kS.2.2.2.1,hx3.cell kS.2.2.2.2.1,hx3.cell kS.2.2.2.2.2.1,hx3.cell kS.2.2.2.2.2.2.1,hx3.cell kS.2.2.2.2.2.2.2.1,hx3.cell kS.2.2.2.2.2.2.2.2.1,hx3.cell kS.2.2.2.2.2.2.2.2.2.1,hx3.cell kS.2.2.2.2.2.2.2.2.2.2.1,hx3.cell kS.2.2.2.2.2.2.2.2.2.2.2⟩
   clear hx3 kS HFd;cases hlt:decide (yc<xc∨(yc=xc∧yg<xg)) with
   |true =>
    replace hlt:=zZ hlt;refine hK.out _ _ (fun _=>(kS2)) ?_;clear hK K;try simp only[kA]
    refine zS 1 [(11,18)] kS2 ?_;(apply zT;exact⟨rfl,rfl⟩;(·intro _ _;go_simp;try with_reducible rfl);simp only[kA];exact rfl);refine zN (zD ?_);clear kS2;go_wp2_with fail;go_roundw
    case rel=>exact⟨k+1,by go_num,by omega,⟨⟨HF3.out,fun j y hj hy=>by rcases zV j k with h|h;exact HA.out j y h hy;obtain rfl:j=k:=(by omega);rw[HY.out]at hy;injection hy with hy;subst hy;exact hlt.out⟩⟩⟩
    case measure=>simp[intOf];omega
   |false =>
    replace hlt:=zZ hlt;refine hK.out _ _ (fun _=>(kS2)) ?_;clear hK K;try simp only[kA]
    refine zS 1 [(11,18)] kS2 ?_;(apply zT;exact⟨rfl,rfl⟩;(·intro _ _;go_simp;try with_reducible rfl);simp only[kA];exact rfl);refine zN (zD ?_);clear kS2;obtain⟨Az,hAz⟩:=nm (some ⟨b,off,none⟩:Option Addr);rw[←hAz]at HV HW;rw[←hAz];clear hAz;have HB:Bx (∀y,l[k]?=some y→cM y (⟨xc,xg,xt,ch,⟨xs,xq⟩⟩:Pg)=false):=⟨fun y hy=>by rw[HY.out]at hy;injection hy with hy;subst hy;exact hlt.out⟩
    have HI9:=zZ (jK HA.out HB.out (by have:=HL.out;omega));have HT:=zZ ((HW.out.ext (fun _ _ _ _ h _=>h) HF3.out.xt).take hk);go_wp2_with (first
     |(at_builtin;(refine dw _ rfl (.tmp 21) (.tmp 24) 29 rfl w.heap.size 77 iC _ 6 64 underlying29 hiC hC0 hC1 hC2 rfl (by omega) R (fun cs x h=>rN p w cs x (hR cs x h)) (.slice none 0 0) [] rfl ay.nil p _ k c (l.take k) rfl HT.out (by simp;omega) (by omega) (HF3.out.xt.size) ?_;intro v4 w4 hown4 hg4;have HO4:Bx (ay w.heap.size 77 6 R w4 v4 (l.take k)):=⟨hown4⟩;have HF4:=zZ (HF3.out.grown hg4 (by simp[Value.ownBlock]) (by simp[Value.ownBlock]));clear hown4 hg4;have z0:=(HF4.out.at_ 0 rfl).c 0 rfl;have z1:=(HF4.out.at_ 0 rfl).c 1 rfl;have z2:=(HF4.out.at_ 0 rfl).c 2 rfl;have z3:=(HF4.out.at_ 0 rfl).c 3 rfl;have z4:=(HF4.out.at_ 0 rfl).c 4 rfl;have z5:=(HF4.out.at_ 0 rfl).c 5 rfl))
     |(at_builtin;(refine fW _ rfl (.tmp 26) (.tmp 28) 29 rfl w.heap.size 77 iC _ 6 64 underlying29 hiC hC0 hC1 hC2 rfl (by omega) R v4 (l.take k) rfl (HO4.out.ext ((zE _).alloc _)) _ #[.int .i64 xc,.int .i64 xg,.int .i64 xt,.slice Ax nx cx,.int .i64 xs,.int .i64 xq] _ (⟨xc,xg,xt,ch,⟨xs,xq⟩⟩:Pg) rfl (heap_alloc_new _ _) rfl (by simp[Value.oneCell']) HX.out (by rw[zF];omega) (by omega) (by have:=HF4.out.xt.size;simp;omega) ?_;intro v5 w5 hown5 hg5;have HO5:Bx (ay w.heap.size 77 6 R w5 v5 (l.take k++[(⟨xc,xg,xt,ch,⟨xs,xq⟩⟩:Pg)])):=⟨hown5⟩;have HE5:Bx (ab w w5):=⟨(HF4.out.xt.alloc _).grown hg5 HO4.out.ge⟩;have HD:=zZ (GA (HW.out.ext (fun _ _ _ _ h _=>h) HE5.out) hk (by omega));clear hown5 hg5))
     |(at_builtin;go_loud (refine dw _ rfl (.tmp 30) (.tmp 33) 29 rfl w.heap.size 77 iC _ 6 64 underlying29 hiC hC0 hC1 hC2 rfl (by omega) R (fun cs x h=>rN p w cs x (hR cs x h)) v5 _ rfl HO5.out p _ (n-k) (c-k) (l.drop k) rfl HD.out (by simp[zF];omega) (by omega) (HE5.out.size) ?_;intro v6 w6 hown6 hg6;have HO6:Bx (ay w.heap.size 77 6 R w6 v6 (l.take k++[(⟨xc,xg,xt,ch,⟨xs,xq⟩⟩:Pg)]++l.drop k)):=⟨hown6⟩;have HE6:Bx (ab w w6):=⟨HE5.out.grown hg6 HO5.out.ge⟩;clear hown6 hg6)))
    all_goals (go_ret;exact⟨v6,rfl,HI9.out▸HO6.out,HE6.out⟩)
  ·obtain rfl:k=n:=by omega
   have kS:True:=trivial;go_upto_region 2 with (fail)
   refine zR 99 (fun _=>True) ?_;refine zS 5 [(0,7),(1,8),(2,9),(3,10),(4,11)] kS ?_;iterate 5 (apply zT;exact⟨rfl,rfl⟩;(·intro _ _;go_simp;try with_reducible rfl);simp only[kA];exact rfl)
   refine zN (zS 6 [(5,12),(6,13),(7,14),(8,15),(9,16),(10,17)] kS ?_);iterate 6 (apply zK;exact⟨rfl,rfl⟩;simp only[kA];exact rfl)
   refine zN (zS 1 [(11,18)] kS ?_);(apply zT;exact⟨rfl,rfl⟩;(·intro _ _;go_simp;try with_reducible rfl);simp only[kA];exact rfl);refine zN (zD ?_);clear kS;have HB:Bx (∀y,l[k]?=some y→cM y (⟨xc,xg,xt,ch,⟨xs,xq⟩⟩:Pg)=false):=⟨fun y hy=>by have:=(zY.1 hy).1;have:=HL.out;omega⟩
   have HI9:=zZ (jK HA.out HB.out (by have:=HL.out;omega));have HT:=zZ ((HW.out.ext (fun _ _ _ _ h _=>h) HFd.out.xt).take hk);go_wp2_with (first
    |(at_builtin;(refine dw _ rfl (.tmp 21) (.tmp 24) 29 rfl w.heap.size 77 iC _ 6 64 underlying29 hiC hC0 hC1 hC2 rfl (by omega) R (fun cs x h=>rN p w cs x (hR cs x h)) (.slice none 0 0) [] rfl ay.nil p _ k c (l.take k) rfl HT.out (by simp;omega) (by omega) (HFd.out.xt.size) ?_;intro v4 w4 hown4 hg4;have HO4:Bx (ay w.heap.size 77 6 R w4 v4 (l.take k)):=⟨hown4⟩;have HF4:=zZ (HFd.out.grown hg4 (by simp[Value.ownBlock]) (by simp[Value.ownBlock]));clear hown4 hg4;have z0:=(HF4.out.at_ 0 rfl).c 0 rfl;have z1:=(HF4.out.at_ 0 rfl).c 1 rfl;have z2:=(HF4.out.at_ 0 rfl).c 2 rfl;have z3:=(HF4.out.at_ 0 rfl).c 3 rfl;have z4:=(HF4.out.at_ 0 rfl).c 4 rfl;have z5:=(HF4.out.at_ 0 rfl).c 5 rfl))
    |(at_builtin;(refine fW _ rfl (.tmp 26) (.tmp 28) 29 rfl w.heap.size 77 iC _ 6 64 underlying29 hiC hC0 hC1 hC2 rfl (by omega) R v4 (l.take k) rfl (HO4.out.ext ((zE _).alloc _)) _ #[.int .i64 xc,.int .i64 xg,.int .i64 xt,.slice Ax nx cx,.int .i64 xs,.int .i64 xq] _ (⟨xc,xg,xt,ch,⟨xs,xq⟩⟩:Pg) rfl (heap_alloc_new _ _) rfl (by simp[Value.oneCell']) HX.out (by rw[zF];omega) (by omega) (by have:=HF4.out.xt.size;simp;omega) ?_;intro v5 w5 hown5 hg5;have HO5:Bx (ay w.heap.size 77 6 R w5 v5 (l.take k++[(⟨xc,xg,xt,ch,⟨xs,xq⟩⟩:Pg)])):=⟨hown5⟩;have HE5:Bx (ab w w5):=⟨(HF4.out.xt.alloc _).grown hg5 HO4.out.ge⟩;have HD:=zZ (Gu (HW.out.ext (fun _ _ _ _ h _=>h) HE5.out));clear hown5 hg5))
    |(at_builtin;go_loud (refine dw _ rfl (.tmp 30) (.tmp 33) 29 rfl w.heap.size 77 iC _ 6 64 underlying29 hiC hC0 hC1 hC2 rfl (by omega) R (fun cs x h=>rN p w cs x (hR cs x h)) v5 _ rfl HO5.out p _ 0 (c-k) (l.drop k) rfl HD.out (by simp[zF];omega) (by omega) (HE5.out.size) ?_;intro v6 w6 hown6 hg6;have HO6:Bx (ay w.heap.size 77 6 R w6 v6 (l.take k++[(⟨xc,xg,xt,ch,⟨xs,xq⟩⟩:Pg)]++l.drop k)):=⟨hown6⟩;have HE6:Bx (ab w w6):=⟨HE5.out.grown hg6 HO5.out.ge⟩;clear hown6 hg6)))
   all_goals (go_ret;exact⟨v6,rfl,HI9.out▸HO6.out,HE6.out⟩)
theorem C0(v:Value)(l:List Int)(w:World)(hp:p<w.heap.size)(h:ao p w v l)(hl:l.length≤1000) :
  Calls prog 136 #[v] w fun e w'=>∃v',e=.returned v'∧ao p w' v' l∧ab w w':=by
 obtain⟨A,n,c,rfl,hnc,hc,hnn,HL⟩:=h.open_;have hn:n≤1000:=by have:=HL.out;omega
 have H:=zZ h;clear h hl;obtain⟨i0,hi0,hz0,hz1,hz2⟩:=info_parts Tryz.infoI;have q28:∀(w:World) (a:Option Addr) (n c n' c':Nat),(binOp .eql 22 (.slice a n c) (.slice none n' c')).run prog w=.ok (.bool a.isNone) w:=fun w a n c n' c'=>Lib.run_eql_slice_nil w _ _ a n c n' c' underlying22;rcases A with _|⟨b,off,ix⟩
 ·go_enter func136,ntmps136
  go_wp2_with fail;go_ret
  refine⟨_,rfl,?_,zE _⟩;have:l=[]:=by
   rcases xW n with h0|h0
   ·exact yO (by have:=HL.out;omega)
   ·obtain⟨b,off,x,hb,_⟩:=H.out.at_ h0;cases hb
  rw[this];exact ao.nil _ _
 ·go_enter func136,ntmps136
  have HO:Hid ((w.alloc (.cells #[] 3)).ownsRow w.heap.size 3 1 (.slice (some ⟨w.heap.size,0,none⟩) 0 0) 0 []):=World.ownsRow_lit w #[] 0 (zX _) (by unfold maxLen;omega) rfl;go_wp2_with (at_builtin;refine dj _ rfl (.tmp 5) (.tmp 6) 22 rfl w.heap.size 3 i0 _ 8 underlying22 hi0 hz0 hz1 hz2 rfl _ 0 [] rfl HO.out p (some ⟨b,off,ix⟩) n c l rfl (H.out.ext ((zE _).alloc _)) (by omega) (by omega) (by simp) ?_;intro v' w' hown hg);go_ret
  refine⟨_,rfl,ao.of_own (base:=w.heap.size) (e:=3) (by simpa using hown) hp (fun x hx=>H.out.mem hx) (by have:=HL.out;omega),?_⟩;exact ab.grown ((zE _).alloc _) hg (fun k hk=>by have:=ar HO.out k hk;omega)
def E6(p:Nat)(w:World)(fs:List eh)(cs:List Int)(e:Ending)(w':World):Prop :=
 ∃(v:Value) (rs:List (List Int)) (er:Int),e=.returned (.tuple #[v,.int .i64 er])∧kL p w' v rs∧ab w w' ∧
  (fs.length≠cs.length→rs=[]∧er=1)∧(fs.length=cs.length→rs=dY fs cs cs.length∧er=0)
theorem ao.sub{b off x y:Nat}(h:ao p w (.slice (some ⟨b,off,none⟩) n c) l)(hxy:x<y)(hy:y≤n):ao p w (.slice (some ⟨b,off+x,none⟩) (y-x) (y-x)) ((l.take y).drop x):=by
 have hl:=h.len;obtain⟨A',c',hv,h1,h2,h3,h5,h4⟩:=h;injection hv with ha hn hc;subst ha;subst hc;have hlk:((l.take y).drop x).length=y-x:=by rw[xS,zF];omega
 refine⟨_,y-x,by rw[hlk],by omega,by omega,by omega,fun z hz=>h5 z (wQ (wE hz)),fun i z hz=>?_⟩;rw[xB,yB]at hz;split at hz
 ·obtain⟨b',off',ha,hb,hcell⟩:=h4 _ z hz;injection ha with ha;injection ha with e1 e2;subst e1;subst e2;exact⟨b,off+x,rfl,hb,by rw[Nat.add_assoc];exact hcell⟩
 ·cases hz
theorem BI{fs:List eh}{a b:eh}(ha:fs[k+1]?=some a)(hb:fs[k]?=some b)(h:a.part≠b.part):fk fs (k+1):=by refine .inr fun a' b' ha' hb'=>?_;rw[ha]at ha';rw[Nat.add_sub_cancel,hb]at hb';injection ha' with ha';injection hb' with hb';subst ha';subst hb';exact h
theorem yu{fs:List eh}{a b:eh}(ha:fs[k+1]?=some a)(hb:fs[k]?=some b)(h:a.part=b.part):¬fk fs (k+1):=by
 rintro (h0|h0)
 ·omega
 ·exact h0 a b ha (by rw[Nat.add_sub_cancel];exact hb) h
def sk(fs:List eh)(f t:Nat)(x:Int):Prop:=∀k q,f≤k→k<t→fs[k]?=some q→q.part=x
theorem sk.runs{fs:List eh}(h:sk fs f t x)(ht:t≤fs.length):∀k,f<k→k<t→¬fk fs k:=by
 intro k hk hkt;obtain⟨j,rfl⟩:∃j,k=j+1:=⟨k-1,by omega⟩
 have ha:fs[j+1]?=some fs[j+1]:=zW (by omega);have hb:fs[j]?=some fs[j]:=zW (by omega);exact yu ha hb ((h _ _ (by omega) hkt ha).trans (h _ _ (by omega) (by omega) hb).symm)
theorem sk.step{fs:List eh}{q:eh}(h:sk fs f t x)(hq:fs[t]?=some q)(hx:q.part=x):sk fs f (t+1) x:=by
 intro k r hk hkt hr;rcases zV k t with h1|h1
 ·exact h k r hk h1 hr
 ·obtain rfl:k=t:=by omega
  rw[hq]at hr;injection hr with hr;subst hr;exact hx
theorem sk.stop{fs:List eh}{q:eh}(h:sk fs f t x)(hft:f<t)(ht:t≤fs.length)(hq:fs[t]?=some q)(hx:q.part≠x):fk fs t:=by
 obtain⟨j,rfl⟩:∃j,t=j+1:=⟨t-1,by omega⟩
 have hb:fs[j]?=some fs[j]:=zW (by omega);exact BI hq hb (fun e=>hx (e.trans (h _ _ (by omega) (by omega) hb)))
theorem zo{fs:List eh}(h:fs.length≤k):fk fs k:=.inr fun a b ha=>by rw[yH h]at ha;cases ha
def ri(p base eS:Nat)(w1 w:World)(v:Value)(ls:List (List Int)):Prop :=
 ∃us:List Value,us.length=ls.length∧w.ownsRow base eS 1 v ls.length us∧ab w1 w∧∀(j:Nat) (u:Value) (l:List Int),us[j]?=some u→ls[j]?=some l→ao p w1 u l
theorem ri.isP{base eS:Nat}{w1:World}{ls:List (List Int)}(h:ri p base eS w1 w v ls)(hp:p<base):kL p w v ls:=by obtain⟨us,a,b,c,f⟩:=h;refine bg.of_own (e:=eS) (us.map fun u=>[u]) (by simp) (by decide) (by simpa using a) (by rw[Gt];exact b) hp ?_;intro k cs x hcs hx;simp only[zL,yI]at hcs;obtain⟨u,hu,rfl⟩:=hcs;exact⟨u,rfl,(f k u x hu hx).ext c⟩
theorem ri.push{base eS:Nat}{w1 w':World}{v' u:Value}{ls:List (List Int)}{us:List Value}(h:ri p base eS w1 w v ls)(hus:w.ownsRow base eS 1 v ls.length us)(hu:ao p w1 u l)(hx:ab w1 w')(h':w'.ownsRow base eS 1 v' (ls.length+1) (us++[u])):ri p base eS w1 w' v' (ls++[l]):=by
 obtain⟨us0,a,b,c,f⟩:=h;obtain rfl:=ph b hus;refine⟨us0++[u],by simp[a],by simpa using h',hx,fun j z m hz hm=>?_⟩;rcases zV j ls.length with hj|hj
 ·rw[zH (by omega)]at hz;rw[zH hj]at hm;exact f j z m hz hm
 ·rw[yT (by omega)]at hz;rw[yT hj]at hm;have hj0:j-ls.length=0:=by
   have:=(zY.1 hm).1;simp at this;omega
  rw[a,hj0]at hz;rw[hj0]at hm;simp at hz hm;subst hz;subst hm;exact hu
theorem Ci(v0:Value)(fs:List eh)(v1:Value)(cs:List Int)(w:World)(hp:p<w.heap.size)(h0:GW p w v0 fs)(h1:ao p w v1 cs)(hl:cs.length≤1000) :
  Calls prog 110 #[v0,v1] w (E6 p w fs cs):=by
 obtain⟨A0,n0,c0,rfl,hnc0,hc0,hnn0,HL0⟩:=h0.open_;obtain⟨A1,n1,c1,rfl,hnc1,hc1,hnn1,HL1⟩:=h1.open_;obtain⟨iS,hiS,hy0,hy1,hy2⟩:=info_parts Tryz.infoS;have H0:=zZ h0;have H1:=zZ h1;have HL:=zZ hl;clear h0 h1 hl;by_cases hn:n0=n1
 ·subst hn;go_enter func110,ntmps110
  go_wp2_with fail;refine (C0 _ cs _ hp H1.out HL.out).mono ?_;rintro e w1 ⟨v2,rfl,hI,hE⟩;obtain⟨A2,n2,c2,rfl,hnc2,hc2,hnn2,HL2⟩:=hI.open_;obtain rfl:n0=n2:=HL1.out.symm.trans HL2.out;have HI:=zZ hI;have HE:=zZ hE;have HF:=zZ (H0.out.ext (rB.stab p) hE);have hp1:p<w1.heap.size:=zP hp hE.size;have hn1000:n0≤1000:=by have:=HL.out;have:=HL1.out;omega
  clear hI hE;go_wp2_with fail;go_loopw [7,8] (fun s7 s8 wr=>∃(k n7 c7:Nat) (A7:Option Addr) (ls:List (List Int)),k≤n0∧n7≤k∧s7=.slice A7 n7 c7∧s8=.int .i64 k ∧
    Hid (ls.length=n7∧ls=dY fs cs k∧fk fs k∧ri p w1.heap.size 22 w1 wr (.slice A7 n7 c7) ls)) (fun _ i _=>n0-(intOf i).toNat)
  case atStart=>exact⟨0,0,0,none,[],by omega,by omega,rfl,rfl,rfl,rfl,.inl rfl,[],rfl,yW _ _ _ _,zE _,fun j u l hu=>by simp at hu⟩
  case round =>
   obtain⟨wo,rfl⟩:=nm (wr:World);obtain⟨k,n7,c7,A7,ls,hk,hn7,rfl,rfl,HR⟩:=hrel;by_cases hlt:k<n0
   ·obtain⟨b,off,cs0,q0,rfl,_⟩:=H0.out.at_ hlt;obtain⟨b2,off2,x2,rfl,_⟩:=HI.out.at_ hlt;have hEo:ab w1 wo:=HR.out.2.2.2.choose_spec.2.2.1;have HEO:=zZ hEo;have HFO:=zZ (HF.out.ext (rB.stab p) hEo);obtain⟨q,cq,_,HQ,hq1,hq2⟩:=HFO.out.fld hlt;clear hEo;go_wp2_with fail;go_loopw [9] (fun s9 wr=>∃(t m:Nat),k<t∧t≤n0∧s9=.int .i64 t∧wr=wo.drewN m∧Hid (sk fs k t q.part)) (fun i _=>n0-(intOf i).toNat)
    case atStart=>exact⟨k+1,0,by omega,by omega,by go_num,rfl,fun j r hj hj' hr=>by
     obtain rfl:j=k:=by omega
     rw[HQ.out]at hr;injection hr with hr;rw[hr]⟩
    case round =>
     obtain⟨t,m,ht,ht',rfl,rfl,HS⟩:=hrel;by_cases htn:t<n0
     ·obtain⟨r,cr,_,HRq,hr1,hr2⟩:=HFO.out.fld htn;by_cases hsame:r.part=q.part
      ·have hb1:(r.part==q.part)=true:=by simp[hsame]
       go_wp2_with fail;go_quiet (fail)
       go_wp2_with fail;go_roundw
       case rel=>exact⟨t+1,_,by omega,by omega,by go_num,rfl,HS.out.step HRq.out hsame⟩
       case measure=>simp[intOf];omega
      ·have hb1:(r.part==q.part)=false:=by simp[hsame]
       obtain⟨us,hus,hOS,_⟩:=HR.out.2.2.2;have HOS:Hid (∀m o,((wo.drewN m).alloc o).ownsRow w1.heap.size 22 1 (.slice A7 n7 c7) n7 us):=fun m o=>by have:=ac hOS (((zE wo).drewN m).alloc o);rw[HR.out.1]at this;exact this
       have HOS0:=zZ hOS;clear hOS;go_wp2_with fail;go_quiet (fail)
       go_wp2_with (at_builtin;go_loud (refine al _ rfl (.tmp 42) (.tmp 48) 90 rfl w1.heap.size 22 iS _ 24 underlying90 hiS hy0 hy1 hy2 rfl _ n7 us rfl (HOS.out _ _) _ _ rfl (ak (heap_alloc_new (wo.drewN _) _) (i:=0) rfl) rfl (by omega) (by omega) (by have:=HEO.out.size;first|omega|(simp;omega)|(show w1.heap.size≤(World.alloc _ _).heap.size;rw[World.heap_alloc_size];show w1.heap.size≤wo.heap.size+1;omega)) ?_);intro v' w3 hown' hg';obtain⟨g',cap',rfl,_,_⟩:=aQ hown' (by omega);have HO3:=zZ hown';have HE3:=zZ (ab.grown ((HEO.out.drewN _).alloc _) hg' (fun k hk=>by have:=ar (HOS.out 0 (.cells #[] 3)) k hk;omega));clear hown' hg');go_roundw
       case rel=>exact⟨t,n7+1,cap',_,ls++[(cs.take t).drop k],by omega,by omega,rfl,rfl,by have:=HR.out.1;simp;omega,by rw[HR.out.2.1];exact (kE (by have:=HL1.out;omega) HR.out.2.2.1 ht (HS.out.runs (by have:=HL0.out;omega))).symm,HS.out.stop ht (by have:=HL0.out;omega) HRq.out hsame,HR.out.2.2.2.push HOS0.out (HI.out.sub ht (by omega)) HE3.out (by rw[HR.out.1];exact HO3.out)⟩
       case measure=>simp[intOf];omega
     ·obtain rfl:t=n0:=by omega
      obtain⟨us,hus,hOS,_⟩:=HR.out.2.2.2;have HOS:Hid (∀m o,((wo.drewN m).alloc o).ownsRow w1.heap.size 22 1 (.slice A7 n7 c7) n7 us):=fun m o=>by have:=ac hOS (((zE wo).drewN m).alloc o);rw[HR.out.1]at this;exact this
      have HOS0:=zZ hOS;clear hOS;go_wp2_with fail;go_quiet (fail)
      go_wp2_with (at_builtin;go_loud (refine al _ rfl (.tmp 42) (.tmp 48) 90 rfl w1.heap.size 22 iS _ 24 underlying90 hiS hy0 hy1 hy2 rfl _ n7 us rfl (HOS.out _ _) _ _ rfl (ak (heap_alloc_new (wo.drewN _) _) (i:=0) rfl) rfl (by omega) (by omega) (by have:=HEO.out.size;first|omega|(simp;omega)|(show w1.heap.size≤(World.alloc _ _).heap.size;rw[World.heap_alloc_size];show w1.heap.size≤wo.heap.size+1;omega)) ?_);intro v' w3 hown' hg';obtain⟨g',cap',rfl,_,_⟩:=aQ hown' (by omega);have HO3:=zZ hown';have HE3:=zZ (ab.grown ((HEO.out.drewN _).alloc _) hg' (fun k hk=>by have:=ar (HOS.out 0 (.cells #[] 3)) k hk;omega));clear hown' hg');go_roundw
      case rel=>exact⟨t,n7+1,cap',_,ls++[(cs.take t).drop k],by omega,by omega,rfl,rfl,by have:=HR.out.1;simp;omega,by rw[HR.out.2.1];exact (kE (by have:=HL1.out;omega) HR.out.2.2.1 ht (HS.out.runs (by have:=HL0.out;omega))).symm,zo (by have:=HL0.out;omega),HR.out.2.2.2.push HOS0.out (HI.out.sub ht (by omega)) HE3.out (by rw[HR.out.1];exact HO3.out)⟩
      case measure=>simp[intOf];omega
   ·obtain rfl:k=n0:=by omega
    go_wp2_with fail;refine bodyPost_ret (v:=.tuple #[.slice A7 n7 c7,.int .i64 0]) (by simp[results,results110,go_sem]) rfl ⟨_,ls,0,rfl,HR.out.2.2.2.isP hp1,HE.out.trans HR.out.2.2.2.choose_spec.2.2.1,fun h=>absurd (HL0.out.trans HL1.out.symm) h,fun _=>⟨by rw[HR.out.2.1,HL1.out],rfl⟩⟩
 ·have hne:((n0:Int)!=n1)=true:=by simp;omega
  go_enter func110,ntmps110
  go_wp2_with fail;refine bodyPost_ret (v:=.tuple #[.slice none 0 0,.int .i64 1]) (by simp[results,results110,go_sem]) rfl ⟨_,[],1,rfl,bg.nil _ _ _ _,zE _,fun _=>⟨rfl,rfl⟩,fun h=>absurd h (by have:=HL0.out;have:=HL1.out;omega)⟩
def fu(l:List Int):Nat→Nat
 |0=>0
 |k+1=>if l.getD (fu l k) 0<l.getD k 0 then k else fu l k
theorem Be(l:List Int)(k:Nat):fu l k≤k-1:=by
 induction k with
 |zero=>simp[fu]
 |succ k ih=>unfold fu;split<;>omega
theorem fq(h:l[k]?=some x):l.getD k 0=x:=by simp[List.getD,h]
theorem uf(h:l[k]?=some x)(ho:o=fu l k)(hy:l[o]?=some y)(hlt:y<x):k=fu l (k+1):=by subst ho;rw[fu,fq h,fq hy,if_pos hlt]
theorem qA(h:l[k]?=some x)(ho:o=fu l k)(hy:l[o]?=some y)(hlt:x≤y):o=fu l (k+1):=by subst ho;rw[fu,fq h,fq hy,if_neg (by omega)]
theorem EY(l:List Int):0=fu l 1:=by simp[fu]
def iq(l:List Int)(lead:Int)(o k:Nat):Bool:=(List.range k).all fun i=>i==o||decide (l.getD i 0+lead≤l.getD o 0)
def Gq(l:List Int)(lead:Int):Bool:=iq l lead (fu l l.length) l.length
theorem pa(l:List Int)(lead:Int)(o k:Nat):iq l lead o (k+1)=(iq l lead o k&&(k==o||decide (l.getD k 0+lead≤l.getD o 0))):=by unfold iq;rw[yC,List.all_append];simp
theorem EA(h:k≤n)(hn:iq l lead o k=false):iq l lead o n=false:=by
 unfold iq at *
 rw[xR]at *;obtain⟨i,hi,h'⟩:=hn;exact⟨i,by simp at *;omega,h'⟩
theorem i5{b:Bool}(hb:b=iq l lead o k)(h:l[k]?=some x)(hy:l[o]?=some y)(hk:k=o∨x+lead≤y):b=iq l lead o (k+1):=by rw[pa,←hb,fq h,fq hy];rcases hk with rfl|hk<;>simp[*]
theorem pS(h:l[k]?=some x)(hy:l[o]?=some y)(hk:k≠o)(hlt:y<x+lead):false=iq l lead o (k+1):=by
 rw[pa,fq h,fq hy];have:¬(x+lead≤y):=by omega
 simp[*]
def pt(l:List Int):Int:=(fu l l.length:Nat)
def mq(l:List Int):Int:=l.getD (fu l l.length) 0
theorem rE(hl:l.length=n)(ha:a=fu l n):(a:Int)=pt l:=by subst hl;subst ha;rfl
theorem Fl(hl:l.length=n)(ha:a=fu l n)(hy:l[a]?=some y):y=mq l:=by subst hl;subst ha;exact (fq hy).symm
theorem zp{t:Bool}(hl:l.length=n)(ha:a=fu l n)(ht:t=iq l lead a n):t=Gq l lead:=by subst hl;subst ha;exact ht
theorem r5(hv:l.all bd=true)(h:l[k]?=some x):0≤x∧x≤9:=by have:=yS.1 hv x (zU h);simpa[bd] using this
theorem zi(v:Value)(l:List Int)(lead:Int)(w:World)(h:ao p w v l)(hv:l.all bd=true)(h0:l≠[])(hl1:1≤lead)(hl2:lead≤9) :
  Calls prog 137 #[v,.int .i64 lead] w fun e w' =>e=.returned (.tuple #[.int .i64 (pt l),.int .i64 (mq l),.bool (Gq l lead)])∧w=w':=by
 obtain⟨A,n,c,rfl,hnc,hc,hnn,HL⟩:=h.open_;have hn:0<n:=by have:=HL.out;have:=List.length_pos_iff.2 h0;omega
 have H:=zZ h;have HV:=zZ hv;obtain⟨b,off,x0,rfl,_,_⟩:=h.at_ hn;clear h hv h0;go_enter func137,ntmps137
 go_wp2
 go_loop [4,13] (fun o i=>∃k a:Nat,k≤n∧a<n∧i=.int .i64 k∧o=.int .i64 a∧Hid (a=fu l k)) (fun _ i=>n-(intOf i).toNat)
 case atStart=>exact⟨0,0,yK _,hn,rfl,rfl,rfl⟩
 case round =>
  obtain⟨k,a,hk,ha,rfl,rfl,HA⟩:=hrel;by_cases hlt:k<n
  ·obtain⟨x,hcx,HX,hx1,hx2⟩:=H.out.cell_ hlt;obtain⟨y,hcy,HY,hy1,hy2⟩:=H.out.cell_ ha;go_wp2
   ·go_round
    case rel=>exact⟨k+1,k,by omega,by omega,by go_num,rfl,uf HX.out HA.out HY.out (by assumption)⟩
    case measure=>simp[intOf];omega
   ·go_round
    case rel=>exact⟨k+1,a,by omega,by omega,by go_num,rfl,qA HX.out HA.out HY.out (by omega)⟩
    case measure=>simp[intOf];omega
  ·obtain rfl:k=n:=by omega
   obtain⟨y,hcy,HY,hy1,hy2⟩:=H.out.cell_ ha;have hvy:=r5 HV.out HY.out;go_wp2
   go_loop [6,32] (fun s i=>∃(j:Nat) (t:Bool),j≤k∧i=.int .i64 j∧s=.bool t∧Hid (t=iq l lead a j)) (fun _ i=>k-(intOf i).toNat)
   case atStart=>exact⟨0,true,yK _,rfl,rfl,rfl⟩
   case round =>
    obtain⟨j,t,hj,rfl,rfl,HT⟩:=hrel;by_cases hlt':j<k
    ·obtain⟨x,hcx,HX,hx1,hx2⟩:=H.out.cell_ hlt';have hvx:=r5 HV.out HX.out;by_cases hja:j=a
     ·have hd:((j:Int)!=(a:Int))=false:=by simp[hja]
      have HJ:=zZ hja;clear hja;go_wp2
      go_round
      case rel=>exact⟨j+1,t,by omega,by go_num,rfl,i5 HT.out HX.out HY.out (.inl HJ.out)⟩
      case measure=>simp[intOf];omega
     ·have hd:((j:Int)!=(a:Int))=true:=by simp;omega
      have HJ:=zZ hja;clear hja;go_wp2
      ·go_round
       case rel=>exact⟨j+1,false,by omega,by go_num,rfl,pS HX.out HY.out HJ.out (by omega)⟩
       case measure=>simp[intOf];omega
      ·go_round
       case rel=>exact⟨j+1,t,by omega,by go_num,rfl,i5 HT.out HX.out HY.out (.inr (by omega))⟩
       case measure=>simp[intOf];omega
    ·obtain rfl:j=k:=by omega
     go_wp2
     go_ret3
     exact⟨Gh (rE HL.out HA.out) (Fl HL.out HA.out HY.out) (zp HL.out HA.out HT.out),rfl⟩
theorem fT(v:Value)(l:List Int)(lead:Int)(w:World)(h:ao p w v l)(hv:l.all bd=true)(h0:l≠[])(hl1:1≤lead)(hl2:lead≤9) :
  Calls prog 138 #[v,.int .i64 lead] w fun e w' =>e=.returned (.tuple #[.int .i64 (pt l),.bool (Gq l lead)])∧∃m,w'=w.drewN m:=by
 obtain⟨A,n,c,rfl,hnc,hc,hnn,HL⟩:=h.open_;have hn:0<n:=by have:=HL.out;have:=List.length_pos_iff.2 h0;omega
 have H:=zZ h;have HV:=zZ hv;obtain⟨b,off,x0,rfl,_,_⟩:=h.at_ hn;clear h hv h0;go_enter func138,ntmps138
 go_wp2
 go_loopw [6,7] (fun o i wr=>∃k a m:Nat,1≤k∧k≤n∧a<n∧i=.int .i64 k∧o=.int .i64 a∧Hid (a=fu l k)∧wr=w.drewN m) (fun _ i _=>n-(intOf i).toNat)
 case atStart=>exact⟨1,0,0,by omega,by omega,hn,rfl,rfl,EY l,rfl⟩
 case round =>
  obtain⟨k,a,m,hk1,hk,ha,rfl,rfl,HA,rfl⟩:=hrel;by_cases hlt:k<n
  ·obtain⟨x,hcx,HX,hx1,hx2⟩:=H.out.cell_ hlt;obtain⟨y,hcy,HY,hy1,hy2⟩:=H.out.cell_ ha;go_wp2
   go_quiet (fail)
   go_wp2
   ·go_roundw
    case rel=>exact⟨k+1,k,_,by omega,by omega,by omega,by go_num,rfl,uf HX.out HA.out HY.out (by assumption),rfl⟩
    case measure=>simp[intOf];omega
   ·go_roundw
    case rel=>exact⟨k+1,a,_,by omega,by omega,by omega,by go_num,rfl,qA HX.out HA.out HY.out (by omega),rfl⟩
    case measure=>simp[intOf];omega
  ·obtain rfl:k=n:=by omega
   obtain⟨y,hcy,HY,hy1,hy2⟩:=H.out.cell_ ha;have hvy:=r5 HV.out HY.out;go_wp2
   go_loopw [8] (fun i wr=>∃(j m:Nat),j≤k∧i=.int .i64 j∧Hid (true=iq l lead a j)∧wr=w.drewN m) (fun i _=>k-(intOf i).toNat)
   case atStart=>exact⟨0,m,yK _,rfl,rfl,rfl⟩
   case round =>
    obtain⟨j,m,hj,rfl,HT,rfl⟩:=hrel;by_cases hlt':j<k
    ·obtain⟨x,hcx,HX,hx1,hx2⟩:=H.out.cell_ hlt';have hvx:=r5 HV.out HX.out;by_cases hja:j=a
     ·have hd:((j:Int)!=(a:Int))=false:=by simp[hja]
      have HJ:=zZ hja;clear hja;go_wp2
      go_quiet (fail)
      go_wp2
      go_roundw
      case rel=>exact⟨j+1,_,by omega,by go_num,i5 HT.out HX.out HY.out (.inl HJ.out),rfl⟩
      case measure=>simp[intOf];omega
     ·have hd:((j:Int)!=(a:Int))=true:=by simp;omega
      have HJ:=zZ hja;clear hja;have hwr:IntKind.i64.wrap (y-lead)=y-lead:=yQ _ (by omega);go_wp2
      go_quiet (fail)
      go_wp2
      ·go_ret2
       exact⟨Ep (rE HL.out HA.out) (zp HL.out HA.out (EA (k:=j+1) (by omega) (pS HX.out HY.out HJ.out (by omega)).symm).symm),_,World.drewN_drewN _ _ _⟩
      ·go_roundw
       case rel=>exact⟨j+1,_,by omega,by go_num,i5 HT.out HX.out HY.out (.inr (by omega)),rfl⟩
       case measure=>simp[intOf];omega
    ·obtain rfl:j=k:=by omega
     go_wp2
     go_ret2
     exact⟨Ep (rE HL.out HA.out) (zp HL.out HA.out HT.out),_,rfl⟩
end Go.Proofs.YtjgfgdcaocbfhaaGreat

