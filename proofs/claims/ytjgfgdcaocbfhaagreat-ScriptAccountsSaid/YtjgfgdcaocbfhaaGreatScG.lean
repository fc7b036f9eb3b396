import Derived.Test.YtjgfgdcaocbfhaaGreatScD
set_option linter.all false
set_option maxRecDepth 100000
set_option maxHeartbeats 0
namespace Go.Proofs.YtjgfgdcaocbfhaaGreat
open Go.RowKit _root_.Go.Proofs.Tryz
theorem Tryz.infoScs:(prog.info? 41).map (fun i=>(i.zero,i.size,i.bytes))=some (some (.agg #[.int .i64 0,.int .i64 0,.slice none 0 0]),3,40):=by kernel_rfl
def yl(y:Am×Value):List Value:=[.int .i64 y.1.cand,.int .i64 y.1.state,y.2]
def Ir(base:Nat)(w:World)(y:Am×Value):Prop:=av w base y.2 y.1.pgs
def eO(base:Nat)(w:World)(v:Value)(ys:List (Am×Value)):Prop:=dq base 41 3 yl (Ir base) w v ys
def F4(p:Nat):World→List Value→Am→Prop:=fun w cs x=>∃u,cs=[.int .i64 x.cand,.int .i64 x.state,u]∧ao p w u x.pgs
theorem eO.isS{p base:Nat}{w:World}{v:Value}{ys:List (Am×Value)}(h:eO base w v ys)(hp:p<base):bg p 3 (F4 p) w v (ys.map Prod.fst) :=
 dq.isS Prod.fst h hp (by decide) (fun y _=>rfl) fun y _ hy=>⟨y.2,rfl,av.isI hy hp⟩
def i4(w:World)(er:Int)(l:List Am)(e:Ending)(w':World):Prop:=(∃vr ys,e=.returned (.tuple #[vr,.int .i64 er])∧eO w.heap.size w' vr ys∧ys.map Prod.fst=l)∧ab w w'
theorem fn{s:aZ}{t:en}(h:aV s t=true):cD s∧fB cM t.pgs∧fB aW t.sts:=⟨eV.1 (eQ.1 h).chk,(eQ.1 h).ascP,(eQ.1 h).asc⟩
theorem rK{s:aZ}{k:Nat}{x:dF}(h:s.xp[k]?=some x):x∈s.xp:=zU h
theorem pN(v vi:Value)(s:aZ)(t:en)(w:World){p:Nat}(hp:p<w.heap.size)(hs:aN p w v s)(ht:bN p w vi t)(hn1:t.sts.length≤1000)(hn2:t.pgs.length≤1000) :
  Calls prog 10 #[v,vi] w (i4 w (if aV s t=true then 0 else 1) (if aV s t=true then s.xp.map (bW s t) else [])):=by
 obtain⟨iC,hiC,hC0,hC1,hC2⟩:=info_parts Tryz.infoScs;obtain⟨er,her⟩:=nm (if aV s t=true then 0 else 1:Int);obtain⟨lr,hlr⟩:=nm (if aV s t=true then s.xp.map (bW s t) else []:List Am);rw[←her,←hlr];have HER:=zZ her;have HLR:=zZ hlr;clear her hlr;have HS0:=zZ hs;have HT0:=zZ ht;obtain⟨vP,vB,vX,rfl,hP,hB,hX,hnum⟩:=hs;obtain⟨AP,nP,cP,rfl,-⟩:=hP.open_;obtain⟨AB,nB,cB,rfl,-⟩:=hB.open_;obtain⟨AX,nX,cX,rfl,hncX,hccX,hnnX,HLX⟩:=hX.open_;obtain⟨vS,vG,rfl,hS,hG⟩:=ht;obtain⟨AS,nS,cS,rfl,-⟩:=hS.open_;obtain⟨AG,nG,cG,rfl,-⟩:=hG.open_;have HX0:Bx (d7 p w (.slice AX nX cX) s.xp):=⟨hX⟩
 have HN:Bx (t.sts.length≤1000∧t.pgs.length≤1000):=⟨⟨hn1,hn2⟩⟩
 clear hP hB hX hnum hS hG hn1 hn2;obtain⟨w1,hw1⟩:=nm (((w.alloc (.cells #[.int .i64 s.num,.slice AP nP cP,.slice AB nB cB,.slice AX nX cX] 27)).alloc (.cells #[.slice AS nS cS,.slice AG nG cG] 31)):World);have HF:Bx (ae w w1 [(w.heap.size,#[.int .i64 s.num,.slice AP nP cP,.slice AB nB cB,.slice AX nX cX],27),(w.heap.size+1,#[.slice AS nS cS,.slice AG nG cG],31)]):=⟨by rw[hw1];exact ((ae.start w).push _ _ rfl).push _ _ (by simp)⟩
 go_enter func10,ntmps10
 go_upto_region 1 with (fail)
 rw[←hw1];clear hw1;obtain⟨z0,z1,z2,z3⟩:=(HF.out.at_ 0 rfl).p4 rfl;obtain⟨i0,i1⟩:=(HF.out.at_ 1 rfl).p2 rfl;go_wp2_with fail;refine (gN _ _ s t _ (p:=p) (zP hp HF.out.xt.size) (HS0.out.ext HF.out.xt) (HT0.out.ext HF.out.xt) HN.out.1 HN.out.2).mono ?_;rintro e w2 ⟨rfl,hx2⟩;have HF2:=bx (HF.out.ext hx2);clear HF hx2 z0 z1 z2 z3 i0 i1;cases hb:aV s t with
 |false =>
  obtain rfl:er=1:=by rw[HER.out,hb];rfl
  obtain rfl:lr=[]:=by rw[HLR.out,hb];rfl
  go_wp2_with fail;refine bodyPost_ret (v:=.tuple #[.slice none 0 0,.int .i64 1]) (by simp[results,results10,go_sem]) rfl ⟨⟨.slice none 0 0,[],rfl,dq.nil _ _,rfl⟩,HF2.out.xt⟩
 |true =>
 have HP:=zZ (fn hb);obtain rfl:er=0:=by rw[HER.out,hb];rfl
 have HL2:=zZ (show lr=s.xp.map (bW s t) by rw[HLR.out,hb];rfl);clear HER HLR;have hnX:nX≤60:=by have:=HP.out.1.len.2.2;have:=HLX.out;omega
 clear hb;have z3:=(HF2.out.at_ 0 rfl).c 3 rfl;go_wp2_with fail;clear z3;go_loopw [6,16] (fun s6 s16 wr=>∃(k:Nat) (ys:List (Am×Value)),s16=.int .i64 k∧k≤nX∧Bx (ae w wr [(w.heap.size,#[.int .i64 s.num,.slice AP nP cP,.slice AB nB cB,.slice AX nX cX],27),(w.heap.size+1,#[.slice AS nS cS,.slice AG nG cG],31)]∧eO w.heap.size wr s6 ys∧ys.map Prod.fst=(s.xp.take k).map (bW s t))) (fun _ k _=>nX-(intOf k).toNat)
 case atStart=>exact⟨0,[],rfl,by omega,⟨⟨HF2.out,dq.nil _ _,rfl⟩⟩⟩
 case round =>
  obtain⟨k,ys,rfl,hk,HR⟩:=hrel;have HFr:Bx (ae w wr [(w.heap.size,#[.int .i64 s.num,.slice AP nP cP,.slice AB nB cB,.slice AX nX cX],27),(w.heap.size+1,#[.slice AS nS cS,.slice AG nG cG],31)]):=⟨HR.out.1⟩
  have HO:Bx (eO w.heap.size wr _ ys):=⟨HR.out.2.1⟩
  have HY:Bx (ys.map Prod.fst=(s.xp.take k).map (bW s t)):=⟨HR.out.2.2⟩
  have HYL:Bx (ys.length=k):=⟨by have:=congrArg List.length HY.out;simp at this;have:=HLX.out;omega⟩
  obtain⟨Ao,co,hu⟩:=dq.form HO.out;rw[HYL.out]at hu;subst hu;clear HR HF2;by_cases hkn:k<nX
  ·obtain⟨bX,oX,_,_,rfl,-⟩:=HX0.out.at_ hkn;obtain⟨xa,xb,xd,HXX,x0,x1,x2⟩:=d7.read HX0.out HFr.out.xt.xt hkn;go_upto_region 7 with (fail)
   obtain⟨w2,hw2⟩:=nm ((wr.alloc (.cells #[.int .i64 xa,.int .i64 xb,.int .i64 xd] 83)):World);have hx2:ab wr w2:=by rw[hw2];exact (zE _).alloc _
   have HF2:Bx (ae w w2 [(w.heap.size,#[.int .i64 s.num,.slice AP nP cP,.slice AB nB cB,.slice (some ⟨bX,oX,none⟩) nX cX],27),(w.heap.size+1,#[.slice AS nS cS,.slice AG nG cG],31),(wr.heap.size,#[.int .i64 xa,.int .i64 xb,.int .i64 xd],83)]):=⟨by rw[hw2];exact HFr.out.push _ _ rfl⟩
   rw[←hw2];have HO2:Bx (eO w.heap.size w2 (.slice Ao k co) ys):=⟨dq.ext HO.out (fun y hy=>av.ext hy hx2) hx2⟩
   clear hw2 hx2 x0 x1 x2 HFr HO;obtain⟨gx,hgx⟩:=nm wr.heap.size;rw[←hgx]at HF2;rw[←hgx];clear hgx;obtain⟨z0,z1,z2,z3⟩:=(HF2.out.at_ 0 rfl).p4 rfl;obtain⟨i0,i1⟩:=(HF2.out.at_ 1 rfl).p2 rfl;obtain⟨x0,x1,x2⟩:=(HF2.out.at_ 2 rfl).p3 rfl;go_wp2_with (first
    |(go_at_call 34;refine (fx _ _ s t xa xb xd _ (p:=p) (zP hp HF2.out.xt.size) (HS0.out.ext HF2.out.xt) (HT0.out.ext HF2.out.xt) HP.out.1 HP.out.2.1 (rK HXX.out) HN.out.1 HN.out.2).mono ?_;rintro e w5 ⟨⟨vp,rfl,hvp⟩,hx5⟩;obtain⟨Ap,cp,rfl⟩:=hvp.form;have HVP:=zZ (hvp.base_ HF2.out.xt.size);have HF5:=zZ (HF2.out.ext hx5);have HO5:=zZ (show eO w.heap.size w5 (.slice Ao k co) ys from dq.ext HO2.out (fun y hy=>av.ext hy hx5) hx5);have HW5:=zZ (show w5.ownsRow w.heap.size 41 3 (.slice Ao k co) k (ys.map yl).flatten from HYL.out▸HO5.out.own.own);clear hvp hx5 HF2 HO2)
    |(at_builtin;refine aH _ rfl (.tmp 20) (.tmp 25) 36 rfl w.heap.size 41 iC _ 3 40 underlying36 hiC hC0 hC1 hC2 rfl (by omega) (.slice Ao k co) k (ys.map yl).flatten rfl (ac HW5.out ((zE _).alloc _)) _ #[.int .i64 (bW s t ⟨xa,xb,xd⟩).cand,.int .i64 (bW s t ⟨xa,xb,xd⟩).state,.slice Ap (bW s t ⟨xa,xb,xd⟩).pgs.length cp] _ rfl (heap_alloc_new _ _) rfl (by simp[Value.oneCell']) (by omega) (by omega) (by have:=HF5.out.xt.size;simp;omega) ?_;intro v6 w6 hown6 hg6;have H6:Bx (eO w.heap.size w6 v6 (ys++[(bW s t ⟨xa,xb,xd⟩,.slice Ap (bW s t ⟨xa,xb,xd⟩).pgs.length cp)])∧ae w w6 [(w.heap.size,#[.int .i64 s.num,.slice AP nP cP,.slice AB nB cB,.slice (some ⟨bX,oX,none⟩) nX cX],27),(w.heap.size+1,#[.slice AS nS cS,.slice AG nG cG],31)]):=⟨⟨dq.push (f:=yl) (dq.ext HO5.out (fun y hy=>av.ext hy ((zE _).alloc _)) ((zE _).alloc _)) (HYL.out.symm▸hown6) (fun y hy=>av.apart hy (HO5.out.own.ext ((zE _).alloc _)) (by decide) hg6) (av.apart (HVP.out.ext ((zE _).alloc _)) (HO5.out.own.ext ((zE _).alloc _)) (by decide) hg6),((HF5.out.take 2).ext ((zE _).alloc _)).grownT (HO5.out.own.ext ((zE _).alloc _)) hg6 (zX _) rfl⟩⟩;clear hown6 hg6))
   go_roundw
   case rel=>exact⟨k+1,_,by go_num,by omega,⟨⟨H6.out.2,H6.out.1,by rw[ag HXX.out];simp[HY.out]⟩⟩⟩
   case measure=>simp[intOf];omega
  ·obtain rfl:k=nX:=by omega
   have HE:=zZ (show (s.xp.take k).map (bW s t)=s.xp.map (bW s t) by rw[aD (by have:=HLX.out;omega)]);go_wp2_with fail;refine bodyPost_ret (v:=.tuple #[.slice Ao k co,.int .i64 0]) (by simp[results,results10,go_sem]) rfl ⟨⟨.slice Ao k co,ys,rfl,HO.out,by rw[HY.out,HE.out,HL2.out]⟩,HFr.out.xt⟩
end Go.Proofs.YtjgfgdcaocbfhaaGreat

