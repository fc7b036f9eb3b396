import Derived.Test.YtjgfgdcaocbfhaaGreatH23
set_option linter.all false
set_option maxRecDepth 100000
set_option maxHeartbeats 0
namespace Go.Proofs.YtjgfgdcaocbfhaaGreat
open Go.Value renaming int→B,slice→D
open Go.IntKind renaming i64→C
open Go.RowKit _root_.Go.Proofs.Tryz
variable {base e i j n p size:Nat} {w:World} {u v:Value}
theorem Tryz.infoStp:(prog.info? 109).map (fun i=>(i.zero,i.size,i.bytes))=some (some (.agg #[B C 0,B C 0,B C 0]),3,24):=by kernel_rfl
structure lQ (base p:Nat) (w:World) (v:Value) (ys:List (aF×Value)):Prop where
 own:aL base 111 13 eM w v ys
 el:∀y∈ys,ao p w y.2 y.1.ch∧y.1.wf
theorem fE.wfs{l:List aF}(h:fE p w v l):∀c∈l,c.wf:=by intro c hc;obtain⟨k,hk⟩:=yZ hc;obtain⟨A,cc,rfl,h1,h2,h4⟩:=h;obtain⟨b,off,cs,_,_,_,_,u,_,_,hw⟩:=h4 k c hk;exact hw
def pr(l:List aF)(cls:List Int)(i:Nat):Prop:=cls.length=i∧∀j,j<i→∃c:Nat,cls[j]?=some (c:Int)∧pI l j c
theorem pr.snoc{l:List aF}{cls:List Int}{c:Nat}(h:pr l cls i)(hc:pI l i c):pr l (cls++[(c:Int)]) (i+1):=by
 refine⟨by simp[h.1],fun j hj=>?_⟩;rcases zV j i with hl|hl
 ·obtain⟨c',h1,h2⟩:=h.2 j hl;exact⟨c',by rw[zH (by rw[h.1];exact hl)];exact h1,h2⟩
 ·obtain rfl:j=i:=by omega
  exact⟨c,by rw[yT (by rw[h.1];exact zX _),h.1,Nat.sub_self];rfl,hc⟩
theorem pr.i64{l:List aF}{cls:List Int}(h:pr l cls i)(hi:i≤300):∀x∈cls,aC x:=by
 intro x hx;obtain⟨j,hj⟩:=yZ hx;obtain⟨c,h1,h2⟩:=h.2 j (by have:=(zY.1 hj).1;have:=h.1;omega);rw[hj]at h1;injection h1 with h1;subst h1
 have:=h2.2.1;have:=(zY.1 hj).1;have:=h.1;constructor<;>omega
theorem IsCsR.read{b off c k:Nat}{w0 wx:World}{l:List aF}{R:List Value→aF→Prop}(hR:∀cs c,R cs c→ly p w0 cs c)(h:bg p 13 (fun _=>R) w (D (some ⟨b,off,none⟩) n c) l)(hx:XT p w wx)(hk:k<n) :
  ∃(t s q kd ct ts tq lp lc lg lv:Int) (str:List UInt8) (ch:List Int) (A:Option Addr) (m cc:Nat),Hid (l[k]?=some ⟨⟨t,s,q⟩,kd,str,ct,ch,⟨ts,tq⟩,⟨lp,lc,lg,lv⟩⟩) ∧
   lG wx b (off+k*13) t s q kd ct ts tq lp lc lg lv str A m cc∧ao p w0 (D A m cc) ch∧aF.wf ⟨⟨t,s,q⟩,kd,str,ct,ch,⟨ts,tq⟩,⟨lp,lc,lg,lv⟩⟩ ∧
   R (aF.cells ⟨⟨t,s,q⟩,kd,str,ct,ch,⟨ts,tq⟩,⟨lp,lc,lg,lv⟩⟩ (D A m cc)) ⟨⟨t,s,q⟩,kd,str,ct,ch,⟨ts,tq⟩,⟨lp,lc,lg,lv⟩⟩:=by
 obtain⟨cs,⟨⟨t,s,q⟩,kd,str,ct,ch,⟨ts,tq⟩,⟨lp,lc,lg,lv⟩⟩,-,hc,hr,hx'⟩:=(h.xt (fun _ _ _ _ h _=>h) hx).cell_ hk;obtain⟨u,rfl,hI,hw⟩:=hR _ _ hr;obtain⟨A,m,cc,rfl,-⟩:=hI.open_;exact⟨t,s,q,kd,ct,ts,tq,lp,lc,lg,lv,str,ch,A,m,cc,hx',⟨hc 0 _ rfl,hc 1 _ rfl,hc 2 _ rfl,hc 3 _ rfl,hc 4 _ rfl,hc 5 _ rfl,hc 6 _ rfl,hc 7 _ rfl,hc 8 _ rfl,hc 9 _ rfl,hc 10 _ rfl,hc 11 _ rfl,hc 12 _ rfl⟩,hI,hw,hr⟩
theorem lQ.isR{ys:List (aF×Value)}{R:List Value→aF→Prop}(h:lQ base p w v ys)(hp:p<base)(hR:∀y∈ys,R (eM y) y.1):bg p 13 (fun _=>R) w v (ys.map Prod.fst):=by
 refine bg.of_own (e:=111) (ys.map eM) (fun cs hcs=>by obtain⟨y,_,rfl⟩:=zJ.1 hcs;rfl) (by decide) (by simp) (by rw[zM];exact h.own) hp ?_;intro k cs x hcs hx;simp only[zL,yI]at hcs hx;obtain⟨y,hy,rfl⟩:=hcs;obtain⟨z,hz,rfl⟩:=hx;rw[hy]at hz;injection hz with hz;subst hz
 exact hR y (zU hy)
theorem yr(R:List Value→aF→Prop)(v:Value)(l:List aF)(w:World)(hp:p<w.heap.size)(hR:∀cs c,R cs c→ly p w cs c)(hvR:bg p 13 (fun _=>R) w v l)(hn:l.length≤300) :
  Calls prog 56 #[v] w fun e w'=>∃(vo:Value) (ys:List (aF×Value)),e=.returned (.tuple #[vo,B C 0])∧lQ w.heap.size p w' vo ys∧ys.map Prod.fst=bR l∧(∀y∈ys,R (eM y) y.1)∧ab w w':=by
 have hv:fE p w v l:=hvR.map_ hR;obtain⟨A,n,c,rfl,hnc,hcc,hnn,HL⟩:=hv.open_;obtain⟨i0,hi0,hz0,hz1,hz2⟩:=info_parts Tryz.infoI;obtain⟨iS,hiS,hS0,hS1,hS2⟩:=info_parts Tryz.infoStp;obtain⟨iC,hiC,hC0,hC1,hC2⟩:=info_parts Tryz.infoCap;have hn3:n≤300:=by have:=HL.out;omega
 have HV:Bx (fE p w (D A n c) l):=⟨hv⟩
 have HVR:Bx (bg p 13 (fun _=>R) w (D A n c) l):=⟨hvR⟩
 have HRR:Bx (∀cs c,R cs c→ly p w cs c):=⟨hR⟩
 clear hv hn hvR hR;go_enter func56,ntmps56
 go_wp2_with fail;go_loopw [4,5,6] (fun s4 s5 s6 wr=>∃(i:Nat) (cls:List Int),s6=B C i∧i≤n∧Bx (aL w.heap.size 109 3 eD.cells wr s4 ((l.take i).map aF.st)∧wr.ownsRow w.heap.size 3 1 s5 cls.length (cls.map (Value.int .i64))∧pr l cls i∧ab w wr)) (fun _ _ i _=>n-(intOf i).toNat)
 case atStart=>exact⟨0,[],rfl,by omega,⟨⟨aL.nil,yW _ _ _ _,⟨rfl,fun j hj=>by omega⟩,zE _⟩⟩⟩
 case round =>
  obtain⟨i,cls,rfl,hi,HR⟩:=hrel;by_cases hin:i<n
  ·obtain⟨b,off,_,_,rfl,-⟩:=HV.out.at_ hin;go_wp2_with fail;obtain⟨wo,rfl⟩:=nm (wr:World);go_loopw [7,8] (fun s7 s8 wx=>∃(m c0:Nat) (z:Int),s7=B C c0∧s8=B C z∧z≤(m:Int)-1∧(m:Int)-1≤z∧m≤c0∧c0≤i∧Bx (l[c0]?=l[i]?∧(∀j,m≤j→j<c0→l[j]?≠l[i]?)∧ab wo wx)) (fun _ z _=>(intOf z+1).toNat)
   case atStart=>exact⟨i,i,(i:Int)-1,rfl,rfl,by omega,by omega,by omega,by omega,⟨⟨rfl,fun j h1 h2=>by omega,zE _⟩⟩⟩
   case round =>
    obtain⟨m,c0,z,rfl,rfl,hz1',hz2',hmc,hci,HM⟩:=hrel;have HE:Bx (ab w wr):=⟨HR.out.2.2.2.trans HM.out.2.2⟩
    by_cases hz:0≤z
    ·obtain⟨k,rfl⟩:=zG hz;have hki:k<i:=by omega
     have hkn:k<n:=by omega
     have hmk1:m≤k+1:=by omega
     have hmk2:k+1≤m:=by omega
     obtain⟨xt,xs,xq,xk,xct,xts,xtq,xlp,xlc,xlg,xlv,xstr,xch,xA,xn,xcc,HX,hcx,hix,-⟩:=fE.read HV.out HE.out.xt hin;obtain⟨yt,ys,yq,yk,yct,yts,ytq,ylp,ylc,ylg,ylv,ystr,ych,yA,yn,ycc,HY,hcy,hiy,-⟩:=fE.read HV.out HE.out.xt hkn;have kS:wr.drew.cell? ⟨b,off+i*13,none⟩=some (B C xt)∧wr.drew.cell? ⟨b,off+i*13+1,none⟩=some (B C xs)∧wr.drew.cell? ⟨b,off+i*13+2,none⟩=some (B C xq)∧wr.drew.cell? ⟨b,off+i*13+3,none⟩=some (B C xk)∧wr.drew.cell? ⟨b,off+i*13+4,none⟩=some (.string (ba xstr))∧wr.drew.cell? ⟨b,off+i*13+5,none⟩=some (B C xct)∧wr.drew.cell? ⟨b,off+i*13+6,none⟩=some (D xA xn xcc)∧wr.drew.cell? ⟨b,off+i*13+7,none⟩=some (B C xts)∧wr.drew.cell? ⟨b,off+i*13+8,none⟩=some (B C xtq)∧wr.drew.cell? ⟨b,off+i*13+9,none⟩=some (B C xlp)∧wr.drew.cell? ⟨b,off+i*13+10,none⟩=some (B C xlc)∧wr.drew.cell? ⟨b,off+i*13+11,none⟩=some (B C xlg)∧wr.drew.cell? ⟨b,off+i*13+12,none⟩=some (B C xlv)∧wr.drew.cell? ⟨b,off+k*13,none⟩=some (B C yt)∧wr.drew.cell? ⟨b,off+k*13+1,none⟩=some (B C ys)∧wr.drew.cell? ⟨b,off+k*13+2,none⟩=some (B C yq)∧wr.drew.cell? ⟨b,off+k*13+3,none⟩=some (B C yk)∧wr.drew.cell? ⟨b,off+k*13+4,none⟩=some (.string (ba ystr))∧wr.drew.cell? ⟨b,off+k*13+5,none⟩=some (B C yct)∧wr.drew.cell? ⟨b,off+k*13+6,none⟩=some (D yA yn ycc)∧wr.drew.cell? ⟨b,off+k*13+7,none⟩=some (B C yts)∧wr.drew.cell? ⟨b,off+k*13+8,none⟩=some (B C ytq)∧wr.drew.cell? ⟨b,off+k*13+9,none⟩=some (B C ylp)∧wr.drew.cell? ⟨b,off+k*13+10,none⟩=some (B C ylc)∧wr.drew.cell? ⟨b,off+k*13+11,none⟩=some (B C ylg)∧wr.drew.cell? ⟨b,off+k*13+12,none⟩=some (B C ylv):=⟨hcx.c0,hcx.c1,hcx.c2,hcx.c3,hcx.c4,hcx.c5,hcx.c6,hcx.c7,hcx.c8,hcx.c9,hcx.c10,hcx.c11,hcx.c12,hcy.c0,hcy.c1,hcy.c2,hcy.c3,hcy.c4,hcy.c5,hcy.c6,hcy.c7,hcy.c8,hcy.c9,hcy.c10,hcy.c11,hcy.c12⟩
     have HI:Bx (ao p wr (D xA xn xcc) xch∧ao p wr (D yA yn ycc) ych):=⟨⟨hix,hiy⟩⟩
     clear hcx hcy hix hiy;go_upto_region 10 with (fail)
     refine zR 99 (fun w'=>w'.cell? ⟨b,off+i*13,none⟩=some (B C xt)∧w'.cell? ⟨b,off+i*13+1,none⟩=some (B C xs)∧w'.cell? ⟨b,off+i*13+2,none⟩=some (B C xq)∧w'.cell? ⟨b,off+i*13+3,none⟩=some (B C xk)∧w'.cell? ⟨b,off+i*13+4,none⟩=some (.string (ba xstr))∧w'.cell? ⟨b,off+i*13+5,none⟩=some (B C xct)∧w'.cell? ⟨b,off+i*13+6,none⟩=some (D xA xn xcc)∧w'.cell? ⟨b,off+i*13+7,none⟩=some (B C xts)∧w'.cell? ⟨b,off+i*13+8,none⟩=some (B C xtq)∧w'.cell? ⟨b,off+i*13+9,none⟩=some (B C xlp)∧w'.cell? ⟨b,off+i*13+10,none⟩=some (B C xlc)∧w'.cell? ⟨b,off+i*13+11,none⟩=some (B C xlg)∧w'.cell? ⟨b,off+i*13+12,none⟩=some (B C xlv)∧w'.cell? ⟨b,off+k*13,none⟩=some (B C yt)∧w'.cell? ⟨b,off+k*13+1,none⟩=some (B C ys)∧w'.cell? ⟨b,off+k*13+2,none⟩=some (B C yq)∧w'.cell? ⟨b,off+k*13+3,none⟩=some (B C yk)∧w'.cell? ⟨b,off+k*13+4,none⟩=some (.string (ba ystr))∧w'.cell? ⟨b,off+k*13+5,none⟩=some (B C yct)∧w'.cell? ⟨b,off+k*13+6,none⟩=some (D yA yn ycc)∧w'.cell? ⟨b,off+k*13+7,none⟩=some (B C yts)∧w'.cell? ⟨b,off+k*13+8,none⟩=some (B C ytq)∧w'.cell? ⟨b,off+k*13+9,none⟩=some (B C ylp)∧w'.cell? ⟨b,off+k*13+10,none⟩=some (B C ylc)∧w'.cell? ⟨b,off+k*13+11,none⟩=some (B C ylg)∧w'.cell? ⟨b,off+k*13+12,none⟩=some (B C ylv)) ?_;refine zS 8 [(0,26),(1,27),(2,28),(3,29),(4,30),(5,31),(6,32),(7,33)] kS ?_;iterate 8 (apply zT;exact⟨rfl,rfl⟩;(·intro _ _;go_simp;try with_reducible rfl);simp only[kA];exact rfl)
     refine zN (zO 8 (fun K hK=>?_));go_simp;refine (CV xt xs xq xk xct xts xtq xlp xlc xlg xlv yt ys yq yk yct yts ytq ylp ylc ylg ylv xstr ystr xch ych xA yA xn xcc yn ycc _ (HI.out.1.ext (zE _).drew) (HI.out.2.ext (zE _).drew)).mono ?_;rintro e w3 ⟨rfl,hx3⟩;have HE3:Bx (ab wo w3):=⟨HM.out.2.2.drew.trans hx3⟩
     have HEQ:Bx ((decide ((⟨⟨xt,xs,xq⟩,xk,xstr,xct,xch,⟨xts,xtq⟩,⟨xlp,xlc,xlg,xlv⟩⟩:aF)=⟨⟨yt,ys,yq⟩,yk,ystr,yct,ych,⟨yts,ytq⟩,⟨ylp,ylc,ylg,ylv⟩⟩))=true↔l[k]?=l[i]?):=⟨by rw[HX.out,HY.out,decide_eq_true_eq];constructor;(intro h;rw[h]);(intro h;injection h with h;exact h.symm)⟩
     generalize hbb:decide ((⟨⟨xt,xs,xq⟩,xk,xstr,xct,xch,⟨xts,xtq⟩,⟨xlp,xlc,xlg,xlv⟩⟩:aF)=⟨⟨yt,ys,yq⟩,yk,ystr,yct,ych,⟨yts,ytq⟩,⟨ylp,ylc,ylg,ylv⟩⟩)=bb at *
     clear hbb;refine hK.out _ _ (fun _=>⟨hx3.cell kS.1,hx3.cell kS.2.1,hx3.cell kS.2.2.1,hx3.cell kS.2.2.2.1,hx3.cell kS.2.2.2.2.1,hx3.cell kS.2.2.2.2.2.1,hx3.cell kS.2.2.2.2.2.2.1,hx3.cell kS.2.2.2.2.2.2.2.1,hx3.cell kS.2.2.2.2.2.2.2.2.1,hx3.cell kS.2.2.2.2.2.2.2.2.2.1,hx3.cell kS.2.2.2.2.2.2.2.2.2.2.1,hx3.cell kS.2.2.2.2.2.2.2.2.2.2.2.1,hx3.cell kS.2.2.2.2.2.2.2.2.2.2.2.2.1,hx3.cell kS.2.2.2.2.2.2.2.2.2.2.2.2.2.1,hx3.cell kS.2.2.2.2.2.2.2.2.2.2.2.2.2.2.1,hx3.cell kS.2.2.2.2.2.2.2.2.2.2.2.2.2.2.2.1,hx3.cell kS.2.2.2.2.2.2.2.2.2.2.2.2.2.2.2.2.1,hx3.cell kS.2.2.2.2.2.2.2.2.2.2.2.2.2.2.2.2.2.1,hx3.cell kS.2.2.2.2.2.2.2.2.2.2.2.2.2.2.2.2.2.2.1,hx3.cell kS.2.2.2.2.2.2.2.2.2.2.2.2.2.2.2.2.2.2.2.1,hx3.cell kS.2.2.2.2.2.2.2.2.2.2.2.2.2.2.2.2.2.2.2.2.1,hx3.cell kS.2.2.2.2.2.2.2.2.2.2.2.2.2.2.2.2.2.2.2.2.2.1,hx3.cell kS.2.2.2.2.2.2.2.2.2.2.2.2.2.2.2.2.2.2.2.2.2.2.1,hx3.cell kS.2.2.2.2.2.2.2.2.2.2.2.2.2.2.2.2.2.2.2.2.2.2.2.1,hx3.cell kS.2.2.2.2.2.2.2.2.2.2.2.2.2.2.2.2.2.2.2.2.2.2.2.2.1,hx3.cell kS.2.2.2.2.2.2.2.2.2.2.2.2.2.2.2.2.2.2.2.2.2.2.2.2.2⟩) ?_;clear hK K;try simp only[kA]
     clear kS hx3;refine zD ?_;cases bb with
     |true =>
      go_wp2_with fail;go_roundw
      case rel=>exact⟨k,k,(k:Int)-1,rfl,rfl,by omega,by omega,by omega,by omega,⟨⟨HEQ.out.1 rfl,fun j h1 h2=>by omega,HE3.out⟩⟩⟩
      case measure=>first|(simp[intOf];done)|(simp[intOf];omega)
     |false =>
      have HN:Bx (l[k]?≠l[i]?):=⟨fun h=>by have:=HEQ.out.2 h;cases this⟩
      go_wp2_with fail;go_roundw
      case rel=>exact⟨k,c0,(k:Int)-1,rfl,rfl,by omega,by omega,by omega,by omega,⟨⟨HM.out.1,fun j h1 h2=>by rcases zV k j with h|h;exact HM.out.2.1 j (by omega) h2;obtain rfl:j=k:=(by omega);exact HN.out,HE3.out⟩⟩⟩
      case measure=>first|(simp[intOf];done)|(simp[intOf];omega)
    ·have HCL:Bx (pI l i c0):=⟨⟨HM.out.1,by omega,fun j hj=>HM.out.2.1 j (by omega) hj⟩⟩
     obtain⟨xt,xs,xq,xk,xct,xts,xtq,xlp,xlc,xlg,xlv,xstr,xch,xA,xn,xcc,HX,hcx,-,-⟩:=fE.read HV.out HE.out.xt hin;have a0:=hcx.c0;have a1:=hcx.c1;have a2:=hcx.c2;have hli:((l.take i).map aF.st).length=i:=by rw[zM,zF];have:=HL.out;omega
     have HO4:Bx (wr.ownsRow w.heap.size 109 3 u4 i (((l.take i).map aF.st).map eD.cells).flatten):=⟨by have:=ac HR.out.1 HM.out.2.2;rw[hli]at this;exact this⟩
     have HO5:Bx (wr.ownsRow w.heap.size 3 1 u5 cls.length (cls.map (Value.int .i64))):=⟨ac HR.out.2.1 HM.out.2.2⟩
     have HCT:Bx (pr l cls i):=⟨HR.out.2.2.1⟩
     have hcl:cls.length≤300:=by have:=HCT.out.1;omega
     clear hcx HM HR hli;go_wp2_with (first
      |(at_builtin;go_loud (refine aH _ rfl (.tmp 36) (.tmp 42) 161 rfl w.heap.size 109 iS _ 3 24 underlying161 hiS hS0 hS1 hS2 rfl (by omega) u4 i _ rfl (ac HO4.out ((zE _).alloc _)) _ #[B C xt,B C xs,B C xq] _ rfl (heap_alloc_new _ _) rfl (by simp[Value.oneCell']) (by omega) (by omega) (by have:=HE.out.size;simp;omega) ?_;intro v7 w7 hown7 hg7;have HO7:Bx (w7.ownsRow w.heap.size 109 3 v7 (i+1) ((((l.take i).map aF.st).map eD.cells).flatten++[B C xt,B C xs,B C xq])):=⟨hown7⟩;have HE7:Bx (ab w w7):=⟨(HE.out.alloc _).grown hg7 (ar HO4.out)⟩;have HO57:Bx (w7.ownsRow w.heap.size 3 1 u5 cls.length (cls.map (Value.int .i64))):=⟨a8 (ac HO5.out ((zE _).alloc _)) (ac HO4.out ((zE _).alloc _)) (by decide) hg7⟩;clear hown7 hg7))
      |(at_builtin;go_loud (refine al _ rfl (.tmp 44) (.tmp 46) 22 rfl w.heap.size 3 i0 _ 8 underlying22 hi0 hz0 hz1 hz2 rfl u5 _ _ rfl (HO57.out.alloc _) _ _ rfl (by simp;rfl) rfl (by omega) (by omega) (by have:=HE7.out.size;simp;omega) ?_;intro v8 w8 hown8 hg8;have HO8:Bx (w8.ownsRow w.heap.size 3 1 v8 (cls.length+1) (cls.map (Value.int .i64)++[B C (c0:Int)])):=⟨hown8⟩;have HO78:Bx (w8.ownsRow w.heap.size 109 3 v7 (i+1) ((((l.take i).map aF.st).map eD.cells).flatten++[B C xt,B C xs,B C xq])):=⟨a8 (ac HO7.out ((zE _).alloc _)) (ac HO57.out ((zE _).alloc _)) (by decide) hg8⟩;have HE8:Bx (ab w w8):=⟨(HE7.out.alloc _).grown hg8 (ar HO57.out)⟩;clear hown8 hg8)))
     go_roundw
     case rel =>
      refine⟨i+1,cls++[(c0:Int)],by go_num,by omega,⟨⟨?_,by simpa using HO8.out,HCT.out.snoc HCL.out,HE8.out⟩⟩⟩;have e:(l.take (i+1)).map aF.st=(l.take i).map aF.st++[⟨xt,xs,xq⟩]:=by rw[ag HX.out,yN];rfl
      have hli:((l.take i).map aF.st).length=i:=by rw[zM,zF];have:=HL.out;omega
      rw[e];refine aL.push ?_;rw[hli];exact HO78.out
     case measure=>simp[intOf];omega
  ·obtain rfl:n=i:=by omega
   have htk:l.take n=l:=aD HL.out;have HO4:Bx (pT p wr u4 (l.map aF.st)):=by have h1:=HR.out.1;rw[htk]at h1;exact⟨h1.isS hp (by decide) (fun x _=>rfl) fun x hx=>⟨rfl,by obtain⟨y,hy,rfl⟩:=zJ.1 hx;exact (fE.wfs HV.out y hy).1⟩⟩
   have hcl:cls.length=n:=HR.out.2.2.1.1;have HO5:Bx (ao p wr u5 cls):=⟨ao.of_own HR.out.2.1 hp (HR.out.2.2.1.i64 hn3) (by omega)⟩
   have HCK:Bx (Eh l cls):=⟨by rw[HL.out];exact hcl,fun j hj=>HR.out.2.2.1.2 j (by have:=HL.out;omega)⟩
   have HE:Bx (ab w wr):=⟨HR.out.2.2.2⟩
   have hlen1:cls.length=(l.map aF.st).length:=by rw[zM,HL.out];exact hcl
   have hlen2:(l.map aF.st).length≤300:=by rw[zM,HL.out];exact hn3
   obtain⟨A4,n4,c4,rfl,-⟩:=HO4.out.open_;obtain⟨A5,n5,c5,rfl,-⟩:=HO5.out.open_;have HLE:=zZ (yX hlen1 hlen2);clear HR htk hcl hlen1 hlen2;go_wp2_with fail;refine (sM _ _ (l.map aF.st) cls _ HO4.out HO5.out HLE.out.1 HLE.out.2).mono ?_;rintro e w3 ⟨vo,out,rfl,hown,hsrt,hx3⟩;rw[zM]at hsrt;have hol:out.length≤300:=by have:=FE hsrt;have:=HL.out;omega
   have hp3:p<wr.heap.size:=zP hp HE.out.size;have hIO:=ao.of_own hown hp3 (fun x hx=>by obtain⟨j,rfl,hj,-⟩:=hsrt.mem.1 hx;have:=HL.out;exact⟨by omega,by omega⟩) (by omega);obtain⟨Ao,no,co,rfl,-,-,-,HLo⟩:=hIO.open_;have HIO:Bx (w3.ownsRow w.heap.size 3 1 (D Ao no co) out.length (out.map (Value.int .i64))∧out.length=no):=⟨bo hown HE.out.size,HLo.out⟩
   have HSR:Bx (fy (l.map aF.st) cls l.length out):=⟨hsrt⟩
   have HE3:Bx (ab w w3):=⟨HE.out.trans hx3⟩
   have hno:no≤300:=by have:=HLo.out;omega
   clear hown hsrt hx3 hIO HO4 HO5 HE HLE hp3;go_wp2_with fail;go_loopw [11,12] (fun s11 s12 wr=>∃(m:Nat) (ys:List (aF×Value)),s12=B C m∧m≤no∧ys.length≤m∧m≤ys.length∧Bx (aL w.heap.size 111 13 eM wr s11 ys∧(∀y∈ys,(ao p w y.2 y.1.ch∧y.1.wf)∧R (eM y) y.1)∧ys.map Prod.fst=jF l (out.take m)∧wr.ownsRow w.heap.size 3 1 (D Ao no co) out.length (out.map (Value.int .i64))∧ab w wr)) (fun _ m _=>no-(intOf m).toNat)
   case atStart=>exact⟨0,[],rfl,by omega,by simp,by simp,⟨⟨aL.nil,fun y h=>by simp at h,by simp[jF],HIO.out.1,HE3.out⟩⟩⟩
   case round =>
    have HON:=zZ HIO.out.2;clear HIO HE3;obtain⟨m,ys,rfl,hm,hy1,hy2,HM⟩:=hrel;have HE4:Bx (ab w wr):=⟨HM.out.2.2.2.2⟩
    by_cases hmn:m<no
    ·obtain⟨g2,co2,hv2,-⟩:=aQ HM.out.2.2.2.1 (by have:=HON.out;omega);injection hv2 with hA hB hC;subst hA;clear hB hC;have hmo:out[m]?=some (out[m]'(by have:=HON.out;omega)):=zW _;obtain⟨j,hj,hjl,-⟩:=HSR.out.mem.1 (zU hmo);rw[hj]at hmo;have HXO:=zZ hmo;have x0:wr.cell? ⟨g2,m,none⟩=some (B C (j:Int)):=by
      have hrow:=HM.out.2.2.2.1;rw[HON.out]at hrow;have hml:m<no*1:=by omega
      rw[hrow.cellAt m hml];simp[hmo]
     have hjn:j<n:=by have:=HL.out;omega
     obtain⟨b,off,_,_,rfl,-⟩:=HV.out.at_ hjn;obtain⟨xt,xs,xq,xk,xct,xts,xtq,xlp,xlc,xlg,xlv,xstr,xch,xA,xn,xcc,HX,hcx,hix,hwx,hrx⟩:=IsCsR.read HRR.out HVR.out (XT.refl p w) hjn;obtain⟨e0,e1,e2,e3,e4,e5,e6,e7,e8,e9,e10,e11,e12⟩:=hcx.ext HE4.out;have HIX:Bx ((ao p w (D xA xn xcc) xch∧aF.wf ⟨⟨xt,xs,xq⟩,xk,xstr,xct,xch,⟨xts,xtq⟩,⟨xlp,xlc,xlg,xlv⟩⟩)∧R (aF.cells ⟨⟨xt,xs,xq⟩,xk,xstr,xct,xch,⟨xts,xtq⟩,⟨xlp,xlc,xlg,xlv⟩⟩ (D xA xn xcc)) ⟨⟨xt,xs,xq⟩,xk,xstr,xct,xch,⟨xts,xtq⟩,⟨xlp,xlc,xlg,xlv⟩⟩):=⟨⟨⟨hix,hwx⟩,hrx⟩⟩
     have HOM:Bx (aL w.heap.size 111 13 eM wr u11 ys):=⟨HM.out.1⟩
     clear hix hwx hrx hj hmo hcx;go_wp2_with (at_builtin;go_loud (refine aH _ rfl (.tmp 63) (.tmp 71) 64 rfl w.heap.size 111 iC _ 13 128 underlying64 hiC hC0 hC1 hC2 rfl (by omega) u11 ys.length (ys.map eM).flatten rfl (HOM.out.ext ((zE _).alloc _)) _ #[B C xt,B C xs,B C xq,B C xk,.string (ba xstr),B C xct,D xA xn xcc,B C xts,B C xtq,B C xlp,B C xlc,B C xlg,B C xlv] _ rfl (heap_alloc_new _ _) rfl (by simp[Value.oneCell']) (by omega) (by omega) (by have:=HE4.out.size;simp;omega) ?_;intro v9 w9 hown9 hg9;have HE9:Bx (ab w w9):=⟨(HE4.out.alloc _).grown hg9 (ar HOM.out.own)⟩;have HO9:Bx (aL w.heap.size 111 13 eM w9 v9 (ys++[(⟨⟨xt,xs,xq⟩,xk,xstr,xct,xch,⟨xts,xtq⟩,⟨xlp,xlc,xlg,xlv⟩⟩,D xA xn xcc)])):=⟨aL.push hown9⟩;have HI9:Bx (w9.ownsRow w.heap.size 3 1 (D (some ⟨g2,0,none⟩) no co) out.length (out.map (Value.int .i64))):=⟨a8 (ac HM.out.2.2.2.1 ((zE _).alloc _)) (HOM.out.ext ((zE _).alloc _)) (by decide) hg9⟩;clear hown9 hg9));go_roundw
     case rel =>
      refine⟨m+1,ys++[(⟨⟨xt,xs,xq⟩,xk,xstr,xct,xch,⟨xts,xtq⟩,⟨xlp,xlc,xlg,xlv⟩⟩,D xA xn xcc)],by go_num,by omega,by simp;omega,by simp;omega,⟨⟨HO9.out,fun y hy=>?_,?_,HI9.out,HE9.out⟩⟩⟩
      ·rcases zC.1 hy with hy|hy
       ·exact HM.out.2.1 y hy
       ·obtain rfl:y=_:=by simpa using hy
        exact HIX.out
      ·rw[yN,HM.out.2.2.1,ag HXO.out,sT _ HX.out];rfl
     case measure=>simp[intOf];omega
    ·have HCN:Bx (ys.map Prod.fst=bR l):=⟨by rw[HM.out.2.2.1,aD (by have:=HON.out;omega)];exact Eg HCK.out HSR.out⟩
     have HFI:Bx (lQ w.heap.size p wr u11 ys∧∀y∈ys,R (eM y) y.1):=⟨⟨HM.out.1,fun y hy=>⟨(HM.out.2.1 y hy).1.1.ext HE4.out,(HM.out.2.1 y hy).1.2⟩⟩,fun y hy=>(HM.out.2.1 y hy).2⟩
     go_wp2_with fail;go_ret2
     exact⟨_,ys,rfl,HFI.out.1,HCN.out,HFI.out.2,HE4.out⟩
theorem Tryz.infoLab:(prog.info? 73).map (fun i=>(i.zero,i.size,i.bytes))=some (some (.agg #[B C 0,B C 0,B C 0,B C 0]),4,32):=by kernel_rfl
theorem Tryz.infoBool:(prog.info? 4).map (fun i=>(i.zero,i.size,i.bytes))=some (some (.bool false),1,1):=by kernel_rfl
theorem Cj(n:Nat)(hn:n≤1000)(w:World):(Instr.makeSlice 120 (B C (n:Int)) (B C (n:Int))).run prog w=.ok (D (some ⟨w.heap.size,0,none⟩) n n) (w.alloc (.cells (madeCells #[B C 0,B C 0,B C 0,B C 0] (n*4)) 73)):=by obtain⟨i,hi,h0,h1,h2⟩:=info_parts Tryz.infoLab;have h:=run_make (P:=prog) w 120 73 i _ underlying120 hi h0 .i64 .i64 n n (by omega) (Int.le_refl _) (by rw[h2];omega) (by omega);rw[yR,h1]at h;exact h
theorem zk(n:Nat)(hn:n≤1000)(w:World):(Instr.makeSlice 121 (B C (n:Int)) (B C (n:Int))).run prog w=.ok (D (some ⟨w.heap.size,0,none⟩) n n) (w.alloc (.cells (madeCells #[.bool false] n) 4)) :=
 run_make_row' 121 4 (.bool false) 1 underlying121 Tryz.infoBool rfl .i64 .i64 n (by omega) (by omega) w
theorem qN(n:Nat)(hn:n≤1000)(w:World):(Instr.makeSlice 22 (B C (n:Int)) (B C (n:Int))).run prog w=.ok (D (some ⟨w.heap.size,0,none⟩) n n) (w.alloc (.cells (madeCells #[B C 0] n) 3)) :=
 run_make_row' 22 3 (B C 0) 8 underlying22 Tryz.infoI rfl .i64 .i64 n (by omega) (by omega) w
theorem sf{z:Array Value}{k:Nat}(hk:k<n)(hu:z[k%z.size]! = u):(madeCells z n)[k]?=some u:=by unfold madeCells;rw[Array.getElem?_map,Array.getElem?_range,if_pos hk];simp[hu]
theorem sR{α:Type}[DecidableEq α](lt:α→α→Bool)(l:List α):(mF lt l).length≤l.length:=by
 induction l using jN with
 |h0=>exact zX _
 |h1 l x ih =>
  rw[jV,zI];unfold rY;split
  ·simp;omega
  ·rw[pK];simp;omega
theorem uu(l:List aF):(bR l).length≤l.length:=by have h1:=sR uZ (l.filter (qx l));have h2:=xC (qx l) l;unfold bR;omega
theorem Dz{s:List UInt8}{x:cU}(h:ki s=some x):x.wf:=by
 unfold ki at h;split at h
 ·rename_i hx
  injection h with h;obtain⟨m,hm⟩:=hx.choose_spec;rw[h]at hm;by_cases hu:jh s=0
  ·obtain⟨d,er,kk,-,h2,h3⟩:=hm.2 hu;by_cases hk:kk=0
   ·by_cases hc:jt d≤9999
    ·obtain⟨e1,e2,e3,e4,-⟩:=(h3 hk).2 hc;have b0:=i9 d 0;have b1:=i9 d 1;have b2:=i9 d 2;have b3:=i9 d 3;have b4:=i9 d 4;have b5:=i9 d 5;unfold jt at e2;refine⟨⟨?_,?_⟩,⟨?_,?_⟩,⟨?_,?_⟩,⟨?_,?_⟩⟩<;>omega
    ·have:=((h3 hk).1 (by omega)).2.2.2.2.2;omega
   ·have:=(h2 hk).2.2.2.2.2;omega
  ·have:=(hm.1 hu).2.2.2.2.2;omega
 ·cases h
theorem mU:cU.zero.wf:=⟨⟨by decide,by decide⟩,⟨by decide,by decide⟩,⟨by decide,by decide⟩,⟨by decide,by decide⟩⟩
theorem uF{l:List aF}{id:jd}{x:cU}{st:Int}(hl:∀c∈l,c.wf)(h:cO l id=(x,st)):x.wf:=by
 have hz:cU.zero.wf:=mU;unfold cO se at h;split at h
 ·injection h with h;subst h;exact hz
 ·split at h
  ·rename_i d hd
   split at h
   ·injection h with h;subst h;exact hz
   ·injection h with h;subst h;exact (hl d (xY.1 (List.mem_of_getLast? hd)).1).2.2.2.2.2.1
  ·split at h
   ·rename_i y hy
    injection h with h;subst h;exact Dz hy
   ·injection h with h;subst h;exact hz
theorem kI{s:aZ}{l:List aF}{c:aF}{lab:cU}{st:Int}(hk:c.kind=1)(h:cO l c.id=(lab,st)):dN s l c=⟨c,lab,if st=0 then (if be s lab c.ch then 0 else 5) else st,decide (st=0)&&be s lab c.ch⟩:=by unfold dN;rw[if_pos hk,h]
theorem Cd{s:aZ}{l:List aF}{c:aF}(hk:c.kind≠1):dN s l c=⟨c,cU.zero,0,false⟩:=by unfold dN;rw[if_neg hk]
structure dk (R:List ft) (n i:Nat) (cL cS cF:Array Value):Prop where
 sL:cL.size=n*4
 sS:cS.size=n
 sF:cF.size=n
 lab:∀(k:Nat) x,R[k]?=some x→∀(j:Nat) u,(if k<i then x.lab else cU.zero).cells[j]?=some u→cL[k*4+j]?=some u
 st:∀(k:Nat) x,R[k]?=some x→cS[k]?=some (B C (if k<i then x.st else 0))
 fit:∀(k:Nat) x,R[k]?=some x→cF[k]?=some (.bool (if k<i then x.fit else false))
section
variable {R:List ft} {n i:Nat} {cL cS cF cS' cF':Array Value} {x:ft}
theorem lS{l:cU}(h:l.cells[j]?=some u):j<4:=(zY.1 h).1
theorem dk.start(hn:R.length=n):dk R n 0 (madeCells #[B C 0,B C 0,B C 0,B C 0] (n*4)) (madeCells #[B C 0] n) (madeCells #[.bool false] n):=by
 refine⟨size_madeCells _ _,size_madeCells _ _,size_madeCells _ _,fun k x hx j u hu=>?_,fun k x hx=>?_,fun k x hx=>?_⟩
 ·have hk:=(zY.1 hx).1;have hj:=lS hu;rw[if_neg (by omega)]at hu;refine sf (by omega) ?_;rw[show (#[Value.int .i64 0,B C 0,B C 0,B C 0]:Array Value).size=4 from rfl,show (k*4+j)%4=j by omega];match j,hu with
  |0,hu=>simp[cU.cells,cU.zero]at hu;subst hu;rfl
  |1,hu=>simp[cU.cells,cU.zero]at hu;subst hu;rfl
  |2,hu=>simp[cU.cells,cU.zero]at hu;subst hu;rfl
  |3,hu=>simp[cU.cells,cU.zero]at hu;subst hu;rfl
  |j+4,hu=>omega
 ·have hk:=(zY.1 hx).1;rw[if_neg (by omega)];exact sf (by omega) (by simp[Nat.mod_one])
 ·have hk:=(zY.1 hx).1;rw[if_neg (by omega)];exact sf (by omega) (by simp[Nat.mod_one])
theorem dk.skip(h:dk R n i cL cS cF)(hx:R[i]?=some x)(h1:x.lab=cU.zero)(h2:x.st=0)(h3:x.fit=false):dk R n (i+1) cL cS cF:=by
 refine⟨h.sL,h.sS,h.sF,fun k y hy j u hu=>?_,fun k y hy=>?_,fun k y hy=>?_⟩
 ·refine h.lab k y hy j u ?_;rcases xK k i with e|e|e
  ·rw[if_pos (by omega)]at hu;rw[if_pos e];exact hu
  ·subst e;rw[hx]at hy;injection hy with hy;subst hy
   rw[if_pos (by omega),h1]at hu;rw[if_neg (by omega)];exact hu
  ·rw[if_neg (by omega)]at hu;rw[if_neg (by omega)];exact hu
 ·rw[h.st k y hy];rcases xK k i with e|e|e
  ·rw[if_pos e,if_pos (by omega)]
  ·subst e;rw[hx]at hy;injection hy with hy;subst hy
   rw[if_neg (by omega),if_pos (by omega),h2]
  ·rw[if_neg (by omega),if_neg (by omega)]
 ·rw[h.fit k y hy];rcases xK k i with e|e|e
  ·rw[if_pos e,if_pos (by omega)]
  ·subst e;rw[hx]at hy;injection hy with hy;subst hy
   rw[if_neg (by omega),if_pos (by omega),h3]
  ·rw[if_neg (by omega),if_neg (by omega)]
def ed(c c':Array Value)(i:Nat)(u:Value):Prop:=c'.size=c.size∧c'[i]?=some u∧∀k,k≠i→c'[k]?=c[k]?
theorem ed.one{c:Array Value}(h:i<c.size)(u:Value):ed c (c.setIfInBounds i u) i u :=
 ⟨wH,by rw[wZ];simp[h],fun k hk=>by rw[wZ,if_neg (Ne.symm hk)]⟩
theorem ed.two{c c':Array Value}(h:ed c c' i v)(hi:i<c.size)(u:Value):ed c (c'.setIfInBounds i u) i u :=
 ⟨by rw[wH];exact h.1,by rw[wZ];simp[h.1,hi],fun k hk=>by rw[wZ,if_neg (Ne.symm hk)];exact h.2.2 k hk⟩
theorem dk.put(h:dk R n i cL cS cF)(hR:R.length=n)(hx:R[i]?=some x)(hS:ed cS cS' i (B C x.st))(hF:ed cF cF' i (.bool x.fit)):dk R n (i+1) (dL cL (i*4) x.lab.cells) cS' cF':=by
 have hi:=(zY.1 hx).1;refine⟨?_,by rw[hS.1];exact h.sS,by rw[hF.1];exact h.sF,fun k y hy j u hu=>?_,fun k y hy=>?_,fun k y hy=>?_⟩
 ·rw[←h.sL];simp only[cU.cells,dL,wH]
 ·have hj:=lS hu;have hk:=(zY.1 hy).1;rw[lU,show x.lab.cells.length=4 from rfl,h.sL];rcases xK k i with e|e|e
  ·rw[if_neg (by omega)];rw[if_pos (by omega)]at hu;exact h.lab k y hy j u (by rw[if_pos e];exact hu)
  ·subst e;rw[hx]at hy;injection hy with hy;subst hy
   rw[if_pos (by omega)]at hu;rw[if_pos ⟨by omega,by omega,by omega⟩,show k*4+j-k*4=j by omega];exact hu
  ·rw[if_neg (by omega)];rw[if_neg (by omega)]at hu;exact h.lab k y hy j u (by rw[if_neg (by omega)];exact hu)
 ·rcases xK k i with e|e|e
  ·rw[hS.2.2 k (by omega),h.st k y hy,if_pos e,if_pos (by omega)]
  ·subst e;rw[hx]at hy;injection hy with hy;subst hy
   rw[hS.2.1,if_pos (by omega)]
  ·rw[hS.2.2 k (by omega),h.st k y hy,if_neg (by omega),if_neg (by omega)]
 ·rcases xK k i with e|e|e
  ·rw[hF.2.2 k (by omega),h.fit k y hy,if_pos e,if_pos (by omega)]
  ·subst e;rw[hx]at hy;injection hy with hy;subst hy
   rw[hF.2.1,if_pos (by omega)]
  ·rw[hF.2.2 k (by omega),h.fit k y hy,if_neg (by omega),if_neg (by omega)]
theorem dk.lab0(h:dk R n i cL cS cF)(hx:R[i]?=some x)(hj:j<4):cL[i*4+j]?=some (B C 0):=by
 refine h.lab i x hx j _ ?_;rw[if_neg (by omega)];match j,hj with
 |0,_=>rfl
 |1,_=>rfl
 |2,_=>rfl
 |3,_=>rfl
theorem dk.st0(h:dk R n i cL cS cF)(hx:R[i]?=some x):cS[i]?=some (B C 0):=by rw[h.st i x hx,if_neg (by omega)]
theorem dk.fit0(h:dk R n i cL cS cF)(hx:R[i]?=some x):cF[i]?=some (.bool false):=by rw[h.fit i x hx,if_neg (by omega)]
end
theorem dk.isLb{R:List ft}{cL cS cF:Array Value}{g:Nat}(h:dk R n n cL cS cF)(hR:R.length=n)(hn:n≤1000)(hb:Bk w g cL 73)(hp:g≠p):bg p 4 Hg w (D (some ⟨g,0,none⟩) n n) (R.map ft.lab):=by refine⟨some ⟨g,0,none⟩,n,by rw[zM,hR],by rw[zM];omega,by omega,fun k l hl=>?_⟩;rw[zL,yI]at hl;obtain⟨x,hx,rfl⟩:=hl;have hk:=(zY.1 hx).1;refine⟨g,0,x.lab.cells,rfl,hp,rfl,fun j u hu=>?_,rfl⟩;rw[yV];exact hb.cell (h.lab k x hx j u (by rw[if_pos (by omega)];exact hu))
theorem dk.isBl{R:List ft}{cL cS cF:Array Value}{g:Nat}(h:dk R n n cL cS cF)(hR:R.length=n)(hn:n≤1000)(hb:Bk w g cF 4)(hp:g≠p):bg p 1 Hj w (D (some ⟨g,0,none⟩) n n) (R.map ft.fit):=by
 refine⟨some ⟨g,0,none⟩,n,by rw[zM,hR],by rw[zM];omega,by omega,fun k b hb'=>?_⟩;rw[zL,yI]at hb';obtain⟨x,hx,rfl⟩:=hb';have hk:=(zY.1 hx).1;refine⟨g,0,[.bool x.fit],rfl,hp,rfl,fun j u hu=>?_,rfl⟩;match j,hu with
 |0,hu =>
  simp at hu;subst hu;rw[yV,yP,wY];refine hb.cell ?_;rw[h.fit k x hx,if_pos (by omega)]
 |j+1,hu=>simp at hu
section
variable {R:List ft} {s:aZ} {l:List aF} {k n i:Nat} {x:ft} {cL cS cF:Array Value}
theorem EK(s:aZ)(l:List aF):(bi s l).map ft.cap=l:=by
 unfold bi;rw[List.map_map];have:(ft.cap ∘ dN s l)=id:=by funext c;exact nQ s l c
 rw[this,List.map_id]
theorem zx{c:aF}(hl:∀c∈l,c.wf):(dN s l c).lab.wf:=by
 unfold dN;split
 ·exact uF (id:=c.id) (st:=(cO l c.id).2) hl rfl
 ·exact mU
theorem Ex(hx:R[k]?=some x)(h:x.cap.kind≠1):bJ R (k+1)=bJ R k:=by rw[gJ];unfold oh;rw[hx];simp[h]
theorem AE(hx:R[k]?=some x)(h:x.cap.kind=1):bJ R (k+1)=bJ R k++[nY R k x]:=by rw[gJ];unfold oh;rw[hx];simp[h]
theorem od(hx:R[k]?=some x)(h:¬(x.cap.kind=1∧fD R k x=1)):du R (k+1)=du R k:=by rw[iJ];unfold Gs;rw[hx];simp only[Option.bind_some];rw[if_neg h];simp
theorem Bh(hx:R[k]?=some x)(h:x.cap.kind=1)(h2:fD R k x=1):du R (k+1)=du R k++[G2 x]:=by rw[iJ];unfold Gs;rw[hx];simp only[Option.bind_some];rw[if_pos ⟨h,h2⟩];rfl
theorem kC(R:List ft)(k:Nat):(bz aW (bJ R k)).length≤k:=by rw[(fg _).length_eq];have:=vZ (oh R) (List.range k);rw[wM]at this;exact this
theorem mp(R:List ft)(k:Nat):(bz cM (du R k)).length≤k:=by rw[(fg _).length_eq];have:=vZ (Gs R) (List.range k);rw[wM]at this;exact this
theorem nM(h:dk R n i cL cS cF)(hi:i<n){a:cU}(hj:j<4):(dL cL (i*4) a.cells)[i*4+j]?=a.cells[j]?:=by rw[lU,show a.cells.length=4 from rfl,h.sL,if_pos ⟨by omega,by omega,by omega⟩,show i*4+j-i*4=j by omega]
theorem dm(h:dk R n n cL cS cF)(hk:k<n)(hx:R[k]?=some x)(hu:x.lab.cells[j]?=some u):cL[k*4+j]?=some u:=h.lab k x hx j u (by rw[if_pos hk];exact hu)
theorem FO(h:dk R n n cL cS cF)(hk:k<n)(hx:R[k]?=some x):cF[k]?=some (.bool x.fit):=by rw[h.fit k x hx,if_pos hk]
end
theorem ay.far{α:Type}{R:List Value→α→Prop}{xs:List α}(h:ay base e size R w v xs){a:Addr}(ha:a.block<base)(u:Value):ay base e size R (w.setCell a u) v xs:=by obtain⟨css,h1,h2,h3,h4⟩:=h;exact⟨css,h1,h2,bm h3 (fun e=>by have:=ar h3 _ e;omega) u,h4⟩
theorem ay.base_{α:Type}{b:Nat}{R:List Value→α→Prop}{xs:List α}(h:ay base e size R w v xs)(hb:b≤base):ay b e size R w v xs:=by obtain⟨css,h1,h2,h3,h4⟩:=h;exact⟨css,h1,h2,bo h3 hb,h4⟩
theorem ay.to{α:Type}{R:List Value→α→Prop}{xs ys:List α}(h:ay base e size R w v xs)(he:xs=ys):ay base e size R w v ys:=he▸h
theorem xr{w0 wx:World}{l:List aF}(h:bg p 13 (fun _=>ly p w0) w v l)(h0:ab w0 wx)(hw:ab w wx):fE p wx v l :=
 (h.ext (fun _ _ _ _ h _=>h) hw).map_ fun _ _ k=>ly.stab p _ _ _ _ k h0.xt
end Go.Proofs.YtjgfgdcaocbfhaaGreat

