import Derived.Test.YtjgfgdcaocbfhaaGreatScQ
import Derived.Test.YtjgfgdcaocbfhaaGreatRScD
import Derived.Test.YtjgfgdcaocbfhaaGreatScN
set_option linter.all false
set_option maxRecDepth 100000
set_option maxHeartbeats 0
namespace Go.Proofs.YtjgfgdcaocbfhaaGreat
open Go.RowKit _root_.Go.Proofs.Tryz
theorem IsScs.read{p b off n c k:Nat}{w wx:World}{l:List Am}(h:bg p 3 (F4 p) w (.slice (some ⟨b,off,none⟩) n c) l)(hx:ab w wx)(hk:k<n) :
  ∃(y0 y1:Int) (ps:List Int) (A1:Option Addr) (n1 c1:Nat),Hid (l[k]?=some ⟨y0,y1,ps⟩)∧ao p wx (.slice A1 n1 c1) ps ∧
   wx.cell? ⟨b,off+k*3,none⟩=some (.int .i64 y0)∧wx.cell? ⟨b,off+k*3+1,none⟩=some (.int .i64 y1)∧wx.cell? ⟨b,off+k*3+2,none⟩=some (.slice A1 n1 c1):=by
 obtain⟨cs,⟨y0,y1,ps⟩,-,hc,⟨u1,rfl,h1⟩,HX⟩:=h.cell_ hk;obtain⟨A1,n1,c1,rfl,-⟩:=h1.open_;exact⟨y0,y1,ps,A1,n1,c1,HX,h1.ext hx,by simpa using hx.cell (hc 0 _ rfl),hx.cell (hc 1 _ rfl),hx.cell (hc 2 _ rfl)⟩
theorem ma(v0:Value)(l0:List Int)(w:World)(h0:ao w.heap.size w v0 l0) :
  Calls prog 3 #[v0] w fun e w'=>e=.returned (.bool true)∧ab w w':=by
 have H0:=zZ h0;clear h0;go_enter func3,ntmps3
 go_wp2_with fail;refine (nE _ l0 _ H0.out).mono ?_;rintro e w1 ⟨rfl,HT1,HE1⟩;have HE:=zZ HE1;go_wp2_with fail;refine (i3 _ 4 w1 HT1 (by omega)).mono ?_;rintro e w2 ⟨v2,rfl,⟨vS,vI,s,t,rfl,hs,ht,hn1,hn2,hac⟩,HT2,HX2⟩;have HS2:=zZ hs;have HI2:=zZ ht;have HN:=zZ (yX hn1 hn2);have HAC:=zZ hac;obtain⟨vP,vB,vX,rfl,hP,hB,hX,-⟩:=hs;obtain⟨AP,nP,cP,rfl,-⟩:=hP.open_;obtain⟨AB,nB,cB,rfl,-⟩:=hB.open_;obtain⟨AX,nX,cX,rfl,-⟩:=hX.open_;obtain⟨vT,vG,rfl,hT,hG⟩:=ht;obtain⟨AS,nS,cS,rfl,-⟩:=hT.open_;obtain⟨AG,nG,cG,rfl,hg1,hg2,hg3,HLG⟩:=hG.open_;clear hP hB hX hT hG hn1 hn2 hac hg1 hg2 hg3;obtain⟨gS,hgS⟩:=nm w2.heap.size;obtain⟨w3,hw3⟩:=nm (((w2.alloc (.cells #[.int .i64 s.num,.slice AP nP cP,.slice AB nB cB,.slice AX nX cX] 27)).alloc (.cells #[.slice AS nS cS,.slice AG nG cG] 31)):World);have HF:Bx (Fr w.heap.size w1 w3 [(gS,#[.int .i64 s.num,.slice AP nP cP,.slice AB nB cB,.slice AX nX cX],27),(gS+1,#[.slice AS nS cS,.slice AG nG cG],31)]):=⟨by rw[hw3];exact (((Fr.start HT1).step HX2 HT2).push _ _ hgS.symm).push _ _ (by rw[hgS];simp)⟩
 have hx23:ab w2 w3:=by rw[hw3];exact ((zE _).alloc _).alloc _
 have HS:=bx (HS2.out.ext hx23);have HI:=bx (HI2.out.ext hx23);clear hx23 HS2 HI2;go_upto_region 2 with (fail)
 rw[←hw3,←hgS];clear hw3 hgS HT1 HT2 HX2;obtain⟨er,her⟩:=nm (if aV s t=true then 0 else 1:Int);obtain⟨lr,hlr⟩:=nm (if aV s t=true then s.xp.map (bW s t) else []:List Am);have C1:∀wx,aN w.heap.size wx (.agg #[.int .i64 s.num,.slice AP nP cP,.slice AB nB cB,.slice AX nX cX]) s→bN w.heap.size wx (.agg #[.slice AS nS cS,.slice AG nG cG]) t→w.heap.size<wx.heap.size→Calls prog 10 #[.agg #[.int .i64 s.num,.slice AP nP cP,.slice AB nB cB,.slice AX nX cX],.agg #[.slice AS nS cS,.slice AG nG cG]] wx (i4 wx er lr):=fun wx h1 h2 h3=>by rw[her,hlr];exact pN _ _ s t wx h3 h1 h2 HN.out.1 HN.out.2
 have C2:∀wx,aN w.heap.size wx (.agg #[.int .i64 s.num,.slice AP nP cP,.slice AB nB cB,.slice AX nX cX]) s→bN w.heap.size wx (.agg #[.slice AS nS cS,.slice AG nG cG]) t→w.heap.size<wx.heap.size→Calls prog 11 #[.agg #[.int .i64 s.num,.slice AP nP cP,.slice AB nB cB,.slice AX nX cX],.agg #[.slice AS nS cS,.slice AG nG cG]] wx (i4 wx er lr):=fun wx h1 h2 h3=>by rw[her,hlr];exact tb _ _ s t wx h3 h1 h2 HN.out.1 HN.out.2
 have HC1:=zZ C1;have HC2:=zZ C2;clear C1 C2 her hlr;obtain⟨nl,hnl⟩:=nm lr.length;have HNL:=zZ hnl;clear hnl;obtain⟨z0,z1,z2,z3⟩:=(HF.out.at_ 0 rfl).p4 rfl;obtain⟨i0,i1⟩:=(HF.out.at_ 1 rfl).p2 rfl;go_wp2_with fail;refine (HC1.out _ HS.out HI.out HF.out.lt).mono ?_;rintro e w4 ⟨⟨va,ys,rfl,hra,hya⟩,hx4⟩;obtain⟨Aa,ca,rfl⟩:=hra.form;have hyl:ys.length=nl:=by rw[HNL.out,←hya,zM]
 rw[hyl]at hra;rw[hyl];have HA4:Bx (bg w.heap.size 3 (F4 w.heap.size) w4 (.slice Aa nl ca) lr):=⟨by rw[←hya];exact hra.isS HF.out.lt⟩
 have HF4:=bx (HF.out.ext hx4);have HS4:=bx (HS.out.ext hx4);have HI4:=bx (HI.out.ext hx4);clear HF HS HI hx4 hra hya hyl ys z0 z1 z2 z3 i0 i1;obtain⟨z0,z1,z2,z3⟩:=(HF4.out.at_ 0 rfl).p4 rfl;obtain⟨i0,i1⟩:=(HF4.out.at_ 1 rfl).p2 rfl;go_wp2_with fail;refine (HC2.out _ HS4.out HI4.out HF4.out.lt).mono ?_;rintro e w5 ⟨⟨vb,ys,rfl,hrb,hyb⟩,hx5⟩;obtain⟨Ab,cb,rfl⟩:=hrb.form;have hyl:ys.length=nl:=by rw[HNL.out,←hyb,zM]
 rw[hyl]at hrb;rw[hyl];have HB5:Bx (bg w.heap.size 3 (F4 w.heap.size) w5 (.slice Ab nl cb) lr):=⟨by rw[←hyb];exact hrb.isS HF4.out.lt⟩
 have HX5:Bx (ab w w5):=⟨(HF4.out.xt.fresh HE.out (zX _)).trans hx5⟩
 have HX45:=zZ hx5;clear HF4 HS4 HI4 hx5 hrb hyb hyl ys z0 z1 z2 z3 i0 i1 HC1 HC2 HE1;have hnn:((nl:Int)!=(nl:Int))=false:=by simp
 have hee:(er != er)=false:=by simp
 have hnl6:nl≤9223372036854775807:=by obtain⟨_,_,_,e9,-,-,h9,-⟩:=HA4.out.open_;cases e9;exact h9
 go_wp2_with fail;go_loopw [9] (fun s9 wr=>∃k:Nat,s9=.int .i64 k∧k≤nl∧Bx (ab w5 wr)) (fun k _=>nl-(intOf k).toNat)
 case atStart=>exact⟨0,rfl,by omega,⟨zE _⟩⟩
 case round =>
  obtain⟨k,rfl,hk,HR⟩:=hrel;by_cases hkn:k<nl
  ·obtain⟨ba,oa,_,_,rfl,-⟩:=HA4.out.at_ hkn;obtain⟨bb,ob,_,_,rfl,-⟩:=HB5.out.at_ hkn;obtain⟨y0,y1,ps,A1,n1,c1,HX,hi1,s0,s1,s2⟩:=IsScs.read HA4.out (HX45.out.trans HR.out) hkn;obtain⟨q0,q1,qs,B1,m1,d1,HZ,hj1,t0,t1,t2⟩:=IsScs.read HB5.out HR.out hkn;obtain⟨rfl,rfl,rfl⟩:y0=q0∧y1=q1∧ps=qs:=by
    have:=HZ.out;rw[HX.out]at this;injection this with this;injection this with a b c;exact⟨a,b,c⟩
   obtain rfl:n1=m1:=by have h1:=hi1.len;have h2:=hj1.len;omega
   have HP:Bx (ao w.heap.size wr (.slice A1 n1 c1) ps∧ao w.heap.size wr (.slice B1 n1 d1) ps):=⟨⟨hi1,hj1⟩⟩
   have e0:(y0 != y0)=false:=by simp
   have e1:(y1 != y1)=false:=by simp
   clear hi1 hj1;go_upto_region 9 with (fail)
   refine zQ 99 fun wd kS=>?_;refine zS 35 [(0,44),(1,45),(2,46),(3,47),(4,48),(5,49),(6,50),(7,51),(8,52),(9,53),(10,54),(11,55),(12,56),(13,57),(14,58),(15,59),(16,60),(17,61),(18,62),(19,63),(20,64),(21,65),(22,66),(23,67),(24,68),(25,69),(26,70),(27,71),(28,72),(29,73),(30,74),(31,75),(32,76),(33,77),(34,78)] kS ?_;iterate 35 (apply zT;exact⟨rfl,rfl⟩;(·intro wk hk;have:=hk.cell s0;have:=hk.cell s1;have:=hk.cell s2;have:=hk.cell t0;have:=hk.cell t1;have:=hk.cell t2;go_simp;try with_reducible rfl);simp only[kA];exact rfl)
   refine zN (zO 35 (fun K hK=>?_));go_simp;refine (dH _ _ ps ps _ (HP.out.1.ext kS) (HP.out.2.ext kS)).mono ?_;rintro e w6 ⟨rfl,hx6⟩;have kS2:ab wr w6:=kS.trans hx6;rw[show decide (ps=ps)=true from decide_eq_true rfl];refine hK.out _ _ (fun _=>kS2) ?_;clear hK K;try simp only[kA]
   refine zS 2 [(36,80),(37,81)] kS2 ?_;iterate 2 (apply zT;exact⟨rfl,rfl⟩;(·intro wk hk;have:=hk.cell s0;have:=hk.cell s1;have:=hk.cell s2;have:=hk.cell t0;have:=hk.cell t1;have:=hk.cell t2;go_simp;try with_reducible rfl);simp only[kA];exact rfl)
   refine zN (zD ?_);have HR6:=zZ (HR.out.trans kS2);clear kS kS2 hx6 s0 s1 s2 t0 t1 t2 e0 e1 hnn hee;go_wp2_with fail;go_roundw
   case rel=>exact⟨k+1,by go_num,by omega,⟨HR6.out⟩⟩
   case measure=>simp[intOf];omega
  ·obtain rfl:k=nl:=by omega
   go_wp2_with fail;refine (gW _).mono ?_;rintro e w9 ⟨rfl,hx9⟩;go_wp2_with fail;go_ret
   exact⟨rfl,(HX5.out.trans HR.out).trans hx9⟩
end Go.Proofs.YtjgfgdcaocbfhaaGreat

