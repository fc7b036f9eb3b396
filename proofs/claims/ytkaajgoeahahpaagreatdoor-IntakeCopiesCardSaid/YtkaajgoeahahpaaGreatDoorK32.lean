import Derived.Test.YtkaajgoeahahpaaGreatDoorK24
import Derived.Test.YtkaajgoeahahpaaGreatDoorK26
import Derived.Test.YtkaajgoeahahpaaGreatDoorK29
import Derived.Test.YtkaajgoeahahpaaGreatDoorK31
set_option linter.all false
set_option maxRecDepth 100000
set_option maxHeartbeats 0
namespace Go.Proofs.YtkaajgoeahahpaaGreatDoor
open Go.Value renaming int→B,slice→D
open Go.IntKind renaming i64→C
open Go.RowKit _root_.Go.Proofs.Tryz
variable {b base e i n p size:Nat} {w:World} {v:Value}
theorem Tryz.infoStp:(prog.info? 41).map (fun i=>(i.zero,i.size,i.bytes))=some (some (.agg #[B C 0,B C 0,B C 0]),3,24):=by kernel_rfl
structure jY (base p:Nat) (w:World) (v:Value) (ys:List (aj×Value)):Prop where
 own:da base 47 13 fZ w v ys
 el:∀y∈ys,ak p w y.2 y.1.ch/\y.1.wf
theorem jY.isCs{ys:List (aj×Value)}(h:jY base p w v ys)(hp:p<base):au p w v (ys.map Prod.fst):=by
 refine bj.of_own (e:=47) (ys.map fZ) (fun cs hcs=>by obtain⟨y,_,rfl⟩:=zF.1 hcs;rfl) (by decide) (by simp) (by rw[zJ];exact h.own) hp ?_;intro k cs x hcs hx;simp only[zP,yO]at hcs hx;obtain⟨y,hy,rfl⟩:=hcs;obtain⟨z,hz,rfl⟩:=hx;rw[hy]at hz;injection hz with hz;subst hz
 have hm:=h.el y (zW hy);exact⟨y.2,rfl,hm.1,hm.2⟩
theorem jY.ext{base p:Nat}{w w':World}{v:Value}{ys:List (aj×Value)}(h:jY base p w v ys)(e:ab w w'):jY base p w' v ys:=⟨h.own.ext e,fun y hy=>⟨(h.el y hy).1.ext e,(h.el y hy).2⟩⟩
theorem jY.nil(base p:Nat)(w:World):jY base p w (D none 0 0) []:=⟨da.nil,fun y h=>by simp at h⟩
theorem au.wfs{l:List aj}(h:au p w v l):∀c∈l,c.wf:=by intro c hc;obtain⟨k,hk⟩:=zH hc;obtain⟨A,cc,rfl,h1,h2,h4⟩:=h;obtain⟨b,off,cs,_,_,_,_,u,_,_,hw⟩:=h4 k c hk;exact hw
def qM(l:List aj)(cls:List Int)(i:Nat):Prop:=cls.length=i/\∀j,j<i->∃c:Nat,cls[j]?=some (c:Int)/\rr l j c
theorem qM.snoc{l:List aj}{cls:List Int}{c:Nat}(h:qM l cls i)(hc:rr l i c):qM l (cls++[(c:Int)]) (i+1):=by
 refine⟨by simp[h.1],fun j hj=>?_⟩;rcases zU j i with hl|hl
 ·obtain⟨c',h1,h2⟩:=h.2 j hl;exact⟨c',by rw[yY (by rw[h.1];exact hl)];exact h1,h2⟩
 ·obtain rfl:j=i:=by omega
  exact⟨c,by rw[yL (by rw[h.1];exact zX _),h.1,vH];rfl,hc⟩
theorem qM.i64{l:List aj}{cls:List Int}(h:qM l cls i)(hi:i<=300):∀x∈cls,aU x:=by
 intro x hx;obtain⟨j,hj⟩:=zH hx;obtain⟨c,h1,h2⟩:=h.2 j (by have:=(zY.1 hj).1;have:=h.1;omega);rw[hj]at h1;injection h1 with h1;subst h1
 have:=h2.2.1;have:=(zY.1 hj).1;have:=h.1;constructor<;>omega
theorem IsCsR.read{off c k:Nat}{w0 wx:World}{l:List aj}{R:List Value->aj->Prop}(hR:∀cs c,R cs c->bR p w0 cs c)(h:bj p 13 (fun _=>R) w (D (some ⟨b,off,none⟩) n c) l)(hx:XT p w wx)(hk:k<n) :
  ∃(t s q kd ct ts tq lp lc lg lv:Int) (str:List UInt8) (ch:List Int) (A:Option Addr) (m cc:Nat),Hid (l[k]?=some ⟨⟨t,s,q⟩,kd,str,ct,ch,⟨ts,tq⟩,⟨lp,lc,lg,lv⟩⟩) /\
   ka wx b (off+k*13) t s q kd ct ts tq lp lc lg lv str A m cc/\ak p w0 (D A m cc) ch/\aj.wf ⟨⟨t,s,q⟩,kd,str,ct,ch,⟨ts,tq⟩,⟨lp,lc,lg,lv⟩⟩ /\
   R (aj.cells ⟨⟨t,s,q⟩,kd,str,ct,ch,⟨ts,tq⟩,⟨lp,lc,lg,lv⟩⟩ (D A m cc)) ⟨⟨t,s,q⟩,kd,str,ct,ch,⟨ts,tq⟩,⟨lp,lc,lg,lv⟩⟩:=by
 obtain⟨cs,⟨⟨t,s,q⟩,kd,str,ct,ch,⟨ts,tq⟩,⟨lp,lc,lg,lv⟩⟩,-,hc,hr,hx'⟩:=(h.xt (fun _ _ _ _ h _=>h) hx).cell_ hk;obtain⟨u,rfl,hI,hw⟩:=hR _ _ hr;obtain⟨A,m,cc,rfl,-⟩:=hI.open_;exact⟨t,s,q,kd,ct,ts,tq,lp,lc,lg,lv,str,ch,A,m,cc,hx',⟨hc 0 _ rfl,hc 1 _ rfl,hc 2 _ rfl,hc 3 _ rfl,hc 4 _ rfl,hc 5 _ rfl,hc 6 _ rfl,hc 7 _ rfl,hc 8 _ rfl,hc 9 _ rfl,hc 10 _ rfl,hc 11 _ rfl,hc 12 _ rfl⟩,hI,hw,hr⟩
theorem qI(R:List Value->aj->Prop)(v:Value)(l:List aj)(w:World)(hp:p<w.heap.size)(hR:∀cs c,R cs c->bR p w cs c)(hvR:bj p 13 (fun _=>R) w v l)(hn:l.length<=300) :
  Calls prog 23 #[v] w fun e w'=>∃(vo:Value) (ys:List (aj×Value)),e=.returned (.tuple #[vo,B C 0])/\jY w.heap.size p w' vo ys/\ys.map Prod.fst=ay l/\(∀y∈ys,R (fZ y) y.1)/\ab w w':=by
 have hv:au p w v l:=hvR.map_ hR;obtain⟨A,n,c,rfl,hnc,hcc,hnn,HL⟩:=hv.open_;obtain⟨i0,hi0,hz0,hz1,hz2⟩:=info_parts Tryz.infoI;obtain⟨iS,hiS,hS0,hS1,hS2⟩:=info_parts Tryz.infoStp;obtain⟨iC,hiC,hC0,hC1,hC2⟩:=info_parts Tryz.infoCap;have hn3:n<=300:=by have:=HL.out;omega
 have HV:Bx (au p w (D A n c) l):=⟨hv⟩
 have HVR:Bx (bj p 13 (fun _=>R) w (D A n c) l):=⟨hvR⟩
 have HRR:Bx (∀cs c,R cs c->bR p w cs c):=⟨hR⟩
 clear hv hn hvR hR;go_enter func23,ntmps23
 go_wp2_with fail;go_loopw [4,5,6] (fun s4 s5 s6 wr=>∃(i:Nat) (cls:List Int),s6=B C i/\i<=n/\Bx (da w.heap.size 41 3 bN.cells wr s4 ((l.take i).map aj.st)/\wr.ownsRow w.heap.size 3 1 s5 cls.length (cls.map (Value.int .i64))/\qM l cls i/\ab w wr)) (fun _ _ i _=>n-(intOf i).toNat)
 case atStart=>exact⟨0,[],rfl,by omega,⟨⟨da.nil,yZ _ _ _ _,⟨rfl,fun j hj=>by omega⟩,zE _⟩⟩⟩
 case round =>
  obtain⟨i,cls,rfl,hi,HR⟩:=hrel;by_cases hin:i<n
  ·obtain⟨b,off,_,_,rfl,-⟩:=HV.out.at_ hin;go_wp2_with fail;obtain⟨wo,rfl⟩:=nm (wr:World);go_loopw [7,8] (fun s7 s8 wx=>∃(m c0:Nat) (z:Int),s7=B C c0/\s8=B C z/\z<=(m:Int)-1/\(m:Int)-1<=z/\m<=c0/\c0<=i/\Bx (l[c0]?=l[i]?/\(∀j,m<=j->j<c0->l[j]?≠l[i]?)/\ab wo wx)) (fun _ z _=>(intOf z+1).toNat)
   case atStart=>exact⟨i,i,(i:Int)-1,rfl,rfl,by omega,by omega,by omega,by omega,⟨⟨rfl,fun j h1 h2=>by omega,zE _⟩⟩⟩
   case round =>
    obtain⟨m,c0,z,rfl,rfl,hz1',hz2',hmc,hci,HM⟩:=hrel;have HE:Bx (ab w wr):=⟨HR.out.2.2.2.trans HM.out.2.2⟩
    by_cases hz:0<=z
    ·obtain⟨k,rfl⟩:=zG hz;have hki:k<i:=by omega
     have hkn:k<n:=by omega
     have hmk1:m<=k+1:=by omega
     have hmk2:k+1<=m:=by omega
     obtain⟨xt,xs,xq,xk,xct,xts,xtq,xlp,xlc,xlg,xlv,xstr,xch,xA,xn,xcc,HX,hcx,hix,-⟩:=au.read HV.out HE.out.xt hin;obtain⟨yt,ys,yq,yk,yct,yts,ytq,ylp,ylc,ylg,ylv,ystr,ych,yA,yn,ycc,HY,hcy,hiy,-⟩:=au.read HV.out HE.out.xt hkn;have kS:wr.drew.cell? ⟨b,off+i*13,none⟩=some (B C xt)/\wr.drew.cell? ⟨b,off+i*13+1,none⟩=some (B C xs)/\wr.drew.cell? ⟨b,off+i*13+2,none⟩=some (B C xq)/\wr.drew.cell? ⟨b,off+i*13+3,none⟩=some (B C xk)/\wr.drew.cell? ⟨b,off+i*13+4,none⟩=some (.string (ba xstr))/\wr.drew.cell? ⟨b,off+i*13+5,none⟩=some (B C xct)/\wr.drew.cell? ⟨b,off+i*13+6,none⟩=some (D xA xn xcc)/\wr.drew.cell? ⟨b,off+i*13+7,none⟩=some (B C xts)/\wr.drew.cell? ⟨b,off+i*13+8,none⟩=some (B C xtq)/\wr.drew.cell? ⟨b,off+i*13+9,none⟩=some (B C xlp)/\wr.drew.cell? ⟨b,off+i*13+10,none⟩=some (B C xlc)/\wr.drew.cell? ⟨b,off+i*13+11,none⟩=some (B C xlg)/\wr.drew.cell? ⟨b,off+i*13+12,none⟩=some (B C xlv)/\wr.drew.cell? ⟨b,off+k*13,none⟩=some (B C yt)/\wr.drew.cell? ⟨b,off+k*13+1,none⟩=some (B C ys)/\wr.drew.cell? ⟨b,off+k*13+2,none⟩=some (B C yq)/\wr.drew.cell? ⟨b,off+k*13+3,none⟩=some (B C yk)/\wr.drew.cell? ⟨b,off+k*13+4,none⟩=some (.string (ba ystr))/\wr.drew.cell? ⟨b,off+k*13+5,none⟩=some (B C yct)/\wr.drew.cell? ⟨b,off+k*13+6,none⟩=some (D yA yn ycc)/\wr.drew.cell? ⟨b,off+k*13+7,none⟩=some (B C yts)/\wr.drew.cell? ⟨b,off+k*13+8,none⟩=some (B C ytq)/\wr.drew.cell? ⟨b,off+k*13+9,none⟩=some (B C ylp)/\wr.drew.cell? ⟨b,off+k*13+10,none⟩=some (B C ylc)/\wr.drew.cell? ⟨b,off+k*13+11,none⟩=some (B C ylg)/\wr.drew.cell? ⟨b,off+k*13+12,none⟩=some (B C ylv):=⟨hcx.c0,hcx.c1,hcx.c2,hcx.c3,hcx.c4,hcx.c5,hcx.c6,hcx.c7,hcx.c8,hcx.c9,hcx.c10,hcx.c11,hcx.c12,hcy.c0,hcy.c1,hcy.c2,hcy.c3,hcy.c4,hcy.c5,hcy.c6,hcy.c7,hcy.c8,hcy.c9,hcy.c10,hcy.c11,hcy.c12⟩
     have HI:Bx (ak p wr (D xA xn xcc) xch/\ak p wr (D yA yn ycc) ych):=⟨⟨hix,hiy⟩⟩
     clear hcx hcy hix hiy;go_upto_region 10 with (fail)
     refine zR 99 (fun w'=>w'.cell? ⟨b,off+i*13,none⟩=some (B C xt)/\w'.cell? ⟨b,off+i*13+1,none⟩=some (B C xs)/\w'.cell? ⟨b,off+i*13+2,none⟩=some (B C xq)/\w'.cell? ⟨b,off+i*13+3,none⟩=some (B C xk)/\w'.cell? ⟨b,off+i*13+4,none⟩=some (.string (ba xstr))/\w'.cell? ⟨b,off+i*13+5,none⟩=some (B C xct)/\w'.cell? ⟨b,off+i*13+6,none⟩=some (D xA xn xcc)/\w'.cell? ⟨b,off+i*13+7,none⟩=some (B C xts)/\w'.cell? ⟨b,off+i*13+8,none⟩=some (B C xtq)/\w'.cell? ⟨b,off+i*13+9,none⟩=some (B C xlp)/\w'.cell? ⟨b,off+i*13+10,none⟩=some (B C xlc)/\w'.cell? ⟨b,off+i*13+11,none⟩=some (B C xlg)/\w'.cell? ⟨b,off+i*13+12,none⟩=some (B C xlv)/\w'.cell? ⟨b,off+k*13,none⟩=some (B C yt)/\w'.cell? ⟨b,off+k*13+1,none⟩=some (B C ys)/\w'.cell? ⟨b,off+k*13+2,none⟩=some (B C yq)/\w'.cell? ⟨b,off+k*13+3,none⟩=some (B C yk)/\w'.cell? ⟨b,off+k*13+4,none⟩=some (.string (ba ystr))/\w'.cell? ⟨b,off+k*13+5,none⟩=some (B C yct)/\w'.cell? ⟨b,off+k*13+6,none⟩=some (D yA yn ycc)/\w'.cell? ⟨b,off+k*13+7,none⟩=some (B C yts)/\w'.cell? ⟨b,off+k*13+8,none⟩=some (B C ytq)/\w'.cell? ⟨b,off+k*13+9,none⟩=some (B C ylp)/\w'.cell? ⟨b,off+k*13+10,none⟩=some (B C ylc)/\w'.cell? ⟨b,off+k*13+11,none⟩=some (B C ylg)/\w'.cell? ⟨b,off+k*13+12,none⟩=some (B C ylv)) ?_;refine zS 8 [(0,26),(1,27),(2,28),(3,29),(4,30),(5,31),(6,32),(7,33)] kS ?_;iterate 8 refine zT ?_
     refine zN (zO 8 (fun K hK=>?_));go_simp;refine (oY xt xs xq xk xct xts xtq xlp xlc xlg xlv yt ys yq yk yct yts ytq ylp ylc ylg ylv xstr ystr xch ych xA yA xn xcc yn ycc _ (HI.out.1.ext (zE _).drew) (HI.out.2.ext (zE _).drew)).mono ?_;rintro e w3 ⟨rfl,hx3⟩;have HE3:Bx (ab wo w3):=⟨HM.out.2.2.drew.trans hx3⟩
     have HEQ:Bx ((decide ((⟨⟨xt,xs,xq⟩,xk,xstr,xct,xch,⟨xts,xtq⟩,⟨xlp,xlc,xlg,xlv⟩⟩:aj)=⟨⟨yt,ys,yq⟩,yk,ystr,yct,ych,⟨yts,ytq⟩,⟨ylp,ylc,ylg,ylv⟩⟩))=true↔l[k]?=l[i]?):=⟨by rw[HX.out,HY.out,decide_eq_true_eq];constructor;(intro h;rw[h]);(intro h;injection h with h;exact h.symm)⟩
     generalize hbb:decide ((⟨⟨xt,xs,xq⟩,xk,xstr,xct,xch,⟨xts,xtq⟩,⟨xlp,xlc,xlg,xlv⟩⟩:aj)=⟨⟨yt,ys,yq⟩,yk,ystr,yct,ych,⟨yts,ytq⟩,⟨ylp,ylc,ylg,ylv⟩⟩)=bb at *
     clear hbb;refine hK.out _ _ (fun _=>⟨hx3.cell kS.1,hx3.cell kS.2.1,hx3.cell kS.2.2.1,hx3.cell kS.2.2.2.1,hx3.cell kS.2.2.2.2.1,hx3.cell kS.2.2.2.2.2.1,hx3.cell kS.2.2.2.2.2.2.1,hx3.cell kS.2.2.2.2.2.2.2.1,hx3.cell kS.2.2.2.2.2.2.2.2.1,hx3.cell kS.2.2.2.2.2.2.2.2.2.1,hx3.cell kS.2.2.2.2.2.2.2.2.2.2.1,hx3.cell kS.2.2.2.2.2.2.2.2.2.2.2.1,hx3.cell kS.2.2.2.2.2.2.2.2.2.2.2.2.1,hx3.cell kS.2.2.2.2.2.2.2.2.2.2.2.2.2.1,hx3.cell kS.2.2.2.2.2.2.2.2.2.2.2.2.2.2.1,hx3.cell kS.2.2.2.2.2.2.2.2.2.2.2.2.2.2.2.1,hx3.cell kS.2.2.2.2.2.2.2.2.2.2.2.2.2.2.2.2.1,hx3.cell kS.2.2.2.2.2.2.2.2.2.2.2.2.2.2.2.2.2.1,hx3.cell kS.2.2.2.2.2.2.2.2.2.2.2.2.2.2.2.2.2.2.1,hx3.cell kS.2.2.2.2.2.2.2.2.2.2.2.2.2.2.2.2.2.2.2.1,hx3.cell kS.2.2.2.2.2.2.2.2.2.2.2.2.2.2.2.2.2.2.2.2.1,hx3.cell kS.2.2.2.2.2.2.2.2.2.2.2.2.2.2.2.2.2.2.2.2.2.1,hx3.cell kS.2.2.2.2.2.2.2.2.2.2.2.2.2.2.2.2.2.2.2.2.2.2.1,hx3.cell kS.2.2.2.2.2.2.2.2.2.2.2.2.2.2.2.2.2.2.2.2.2.2.2.1,hx3.cell kS.2.2.2.2.2.2.2.2.2.2.2.2.2.2.2.2.2.2.2.2.2.2.2.2.1,hx3.cell kS.2.2.2.2.2.2.2.2.2.2.2.2.2.2.2.2.2.2.2.2.2.2.2.2.2⟩) ?_;clear hK K;try simp only[kA]
     clear kS hx3;refine zD ?_;cases bb with
     |true =>
      go_wp2_with fail;go_roundw
      case rel=>exact⟨k,k,(k:Int)-1,rfl,rfl,by omega,by omega,by omega,by omega,⟨⟨HEQ.out.1 rfl,fun j h1 h2=>by omega,HE3.out⟩⟩⟩
      case measure=>first|(simp[intOf];done)|(simp[intOf];omega)
     |false =>
      have HN:Bx (l[k]?≠l[i]?):=⟨fun h=>by have:=HEQ.out.2 h;cases this⟩
      go_wp2_with fail;go_roundw
      case rel=>exact⟨k,c0,(k:Int)-1,rfl,rfl,by omega,by omega,by omega,by omega,⟨⟨HM.out.1,fun j h1 h2=>by rcases zU k j with h|h;exact HM.out.2.1 j (by omega) h2;obtain rfl:j=k:=(by omega);exact HN.out,HE3.out⟩⟩⟩
      case measure=>first|(simp[intOf];done)|(simp[intOf];omega)
    ·have HCL:Bx (rr l i c0):=⟨⟨HM.out.1,by omega,fun j hj=>HM.out.2.1 j (by omega) hj⟩⟩
     obtain⟨xt,xs,xq,xk,xct,xts,xtq,xlp,xlc,xlg,xlv,xstr,xch,xA,xn,xcc,HX,hcx,-,-⟩:=au.read HV.out HE.out.xt hin;have a0:=hcx.c0;have a1:=hcx.c1;have a2:=hcx.c2;have hli:((l.take i).map aj.st).length=i:=by rw[zJ,yW];have:=HL.out;omega
     have HO4:Bx (wr.ownsRow w.heap.size 41 3 u4 i (((l.take i).map aj.st).map bN.cells).flatten):=⟨by have:=ao HR.out.1 HM.out.2.2;rw[hli]at this;exact this⟩
     have HO5:Bx (wr.ownsRow w.heap.size 3 1 u5 cls.length (cls.map (Value.int .i64))):=⟨ao HR.out.2.1 HM.out.2.2⟩
     have HCT:Bx (qM l cls i):=⟨HR.out.2.2.1⟩
     have hcl:cls.length<=300:=by have:=HCT.out.1;omega
     clear hcx HM HR hli;go_wp2_with (first
      |(at_builtin;go_loud (refine cZ _ rfl (.tmp 36) (.tmp 42) 103 rfl w.heap.size 41 iS _ 3 24 underlying103 hiS hS0 hS1 hS2 rfl (by omega) u4 i _ rfl (ao HO4.out ((zE _).alloc _)) _ #[B C xt,B C xs,B C xq] _ rfl (heap_alloc_new _ _) rfl (by simp[Value.oneCell']) (by omega) (by omega) (by have:=HE.out.size;simp;omega) ?_;intro v7 w7 hown7 hg7;have HO7:Bx (w7.ownsRow w.heap.size 41 3 v7 (i+1) ((((l.take i).map aj.st).map bN.cells).flatten++[B C xt,B C xs,B C xq])):=⟨hown7⟩;have HE7:Bx (ab w w7):=⟨(HE.out.alloc _).grown hg7 (aq HO4.out)⟩;have HO57:Bx (w7.ownsRow w.heap.size 3 1 u5 cls.length (cls.map (Value.int .i64))):=⟨cO (ao HO5.out ((zE _).alloc _)) (ao HO4.out ((zE _).alloc _)) (by decide) hg7⟩;clear hown7 hg7))
      |(at_builtin;go_loud (refine aF _ rfl (.tmp 44) (.tmp 46) 22 rfl w.heap.size 3 i0 _ 8 underlying22 hi0 hz0 hz1 hz2 rfl u5 _ _ rfl (HO57.out.alloc _) _ _ rfl (by simp;rfl) rfl (by omega) (by omega) (by have:=HE7.out.size;simp;omega) ?_;intro v8 w8 hown8 hg8;have HO8:Bx (w8.ownsRow w.heap.size 3 1 v8 (cls.length+1) (cls.map (Value.int .i64)++[B C (c0:Int)])):=⟨hown8⟩;have HO78:Bx (w8.ownsRow w.heap.size 41 3 v7 (i+1) ((((l.take i).map aj.st).map bN.cells).flatten++[B C xt,B C xs,B C xq])):=⟨cO (ao HO7.out ((zE _).alloc _)) (ao HO57.out ((zE _).alloc _)) (by decide) hg8⟩;have HE8:Bx (ab w w8):=⟨(HE7.out.alloc _).grown hg8 (aq HO57.out)⟩;clear hown8 hg8)))
     go_roundw
     case rel =>
      refine⟨i+1,cls++[(c0:Int)],by go_num,by omega,⟨⟨?_,by simpa using HO8.out,HCT.out.snoc HCL.out,HE8.out⟩⟩⟩;have e:(l.take (i+1)).map aj.st=(l.take i).map aj.st++[⟨xt,xs,xq⟩]:=by rw[ax HX.out,yG];rfl
      have hli:((l.take i).map aj.st).length=i:=by rw[zJ,yW];have:=HL.out;omega
      rw[e];refine da.push ?_;rw[hli];exact HO78.out
     case measure=>simp[intOf];omega
  ·obtain rfl:n=i:=by omega
   have htk:l.take n=l:=bh HL.out;have HO4:Bx (oI p wr u4 (l.map aj.st)):=by have h1:=HR.out.1;rw[htk]at h1;exact⟨h1.isS hp (by decide) (fun x _=>rfl) fun x hx=>⟨rfl,by obtain⟨y,hy,rfl⟩:=zF.1 hx;exact (au.wfs HV.out y hy).1⟩⟩
   have hcl:cls.length=n:=HR.out.2.2.1.1;have HO5:Bx (ak p wr u5 cls):=⟨ak.of_own HR.out.2.1 hp (HR.out.2.2.1.i64 hn3) (by omega)⟩
   have HCK:Bx (If l cls):=⟨by rw[HL.out];exact hcl,fun j hj=>HR.out.2.2.1.2 j (by have:=HL.out;omega)⟩
   have HE:Bx (ab w wr):=⟨HR.out.2.2.2⟩
   have hlen1:cls.length=(l.map aj.st).length:=by rw[zJ,HL.out];exact hcl
   have hlen2:(l.map aj.st).length<=300:=by rw[zJ,HL.out];exact hn3
   obtain⟨A4,n4,c4,rfl,-⟩:=HO4.out.open_;obtain⟨A5,n5,c5,rfl,-⟩:=HO5.out.open_;have HLE:=zZ (yJ hlen1 hlen2);clear HR htk hcl hlen1 hlen2;go_wp2_with fail;refine (Cf _ _ (l.map aj.st) cls _ HO4.out HO5.out HLE.out.1 HLE.out.2).mono ?_;rintro e w3 ⟨vo,out,rfl,hown,hsrt,hx3⟩;rw[zJ]at hsrt;have hol:out.length<=300:=by have:=D9 hsrt;have:=HL.out;omega
   have hp3:p<wr.heap.size:=zB hp HE.out.size;have hIO:=ak.of_own hown hp3 (fun x hx=>by obtain⟨j,rfl,hj,-⟩:=hsrt.mem.1 hx;have:=HL.out;exact⟨by omega,by omega⟩) (by omega);obtain⟨Ao,no,co,rfl,-,-,-,HLo⟩:=hIO.open_;have HIO:Bx (w3.ownsRow w.heap.size 3 1 (D Ao no co) out.length (out.map (Value.int .i64))/\out.length=no):=⟨cd hown HE.out.size,HLo.out⟩
   have HSR:Bx (eQ (l.map aj.st) cls l.length out):=⟨hsrt⟩
   have HE3:Bx (ab w w3):=⟨HE.out.trans hx3⟩
   have hno:no<=300:=by have:=HLo.out;omega
   clear hown hsrt hx3 hIO HO4 HO5 HE HLE hp3;go_wp2_with fail;go_loopw [11,12] (fun s11 s12 wr=>∃(m:Nat) (ys:List (aj×Value)),s12=B C m/\m<=no/\ys.length<=m/\m<=ys.length/\Bx (da w.heap.size 47 13 fZ wr s11 ys/\(∀y∈ys,(ak p w y.2 y.1.ch/\y.1.wf)/\R (fZ y) y.1)/\ys.map Prod.fst=eM l (out.take m)/\wr.ownsRow w.heap.size 3 1 (D Ao no co) out.length (out.map (Value.int .i64))/\ab w wr)) (fun _ m _=>no-(intOf m).toNat)
   case atStart=>exact⟨0,[],rfl,by omega,by simp,by simp,⟨⟨da.nil,fun y h=>by simp at h,by simp[eM],HIO.out.1,HE3.out⟩⟩⟩
   case round =>
    have HON:=zZ HIO.out.2;clear HIO HE3;obtain⟨m,ys,rfl,hm,hy1,hy2,HM⟩:=hrel;have HE4:Bx (ab w wr):=⟨HM.out.2.2.2.2⟩
    by_cases hmn:m<no
    ·obtain⟨g2,co2,hv2,-⟩:=di HM.out.2.2.2.1 (by have:=HON.out;omega);injection hv2 with hA hB hC;subst hA;clear hB hC;have hmo:out[m]?=some (out[m]'(by have:=HON.out;omega)):=zV _;obtain⟨j,hj,hjl,-⟩:=HSR.out.mem.1 (zW hmo);rw[hj]at hmo;have HXO:=zZ hmo;have x0:wr.cell? ⟨g2,m,none⟩=some (B C (j:Int)):=by
      have hrow:=HM.out.2.2.2.1;rw[HON.out]at hrow;have hml:m<no*1:=by omega
      rw[hrow.cellAt m hml];simp[hmo]
     have hjn:j<n:=by have:=HL.out;omega
     obtain⟨b,off,_,_,rfl,-⟩:=HV.out.at_ hjn;obtain⟨xt,xs,xq,xk,xct,xts,xtq,xlp,xlc,xlg,xlv,xstr,xch,xA,xn,xcc,HX,hcx,hix,hwx,hrx⟩:=IsCsR.read HRR.out HVR.out (XT.refl p w) hjn;obtain⟨e0,e1,e2,e3,e4,e5,e6,e7,e8,e9,e10,e11,e12⟩:=hcx.ext HE4.out;have HIX:Bx ((ak p w (D xA xn xcc) xch/\aj.wf ⟨⟨xt,xs,xq⟩,xk,xstr,xct,xch,⟨xts,xtq⟩,⟨xlp,xlc,xlg,xlv⟩⟩)/\R (aj.cells ⟨⟨xt,xs,xq⟩,xk,xstr,xct,xch,⟨xts,xtq⟩,⟨xlp,xlc,xlg,xlv⟩⟩ (D xA xn xcc)) ⟨⟨xt,xs,xq⟩,xk,xstr,xct,xch,⟨xts,xtq⟩,⟨xlp,xlc,xlg,xlv⟩⟩):=⟨⟨⟨hix,hwx⟩,hrx⟩⟩
     have HOM:Bx (da w.heap.size 47 13 fZ wr u11 ys):=⟨HM.out.1⟩
     clear hix hwx hrx hj hmo hcx;go_wp2_with (at_builtin;go_loud (refine cZ _ rfl (.tmp 63) (.tmp 71) 35 rfl w.heap.size 47 iC _ 13 128 underlying35 hiC hC0 hC1 hC2 rfl (by omega) u11 ys.length (ys.map fZ).flatten rfl (HOM.out.ext ((zE _).alloc _)) _ #[B C xt,B C xs,B C xq,B C xk,.string (ba xstr),B C xct,D xA xn xcc,B C xts,B C xtq,B C xlp,B C xlc,B C xlg,B C xlv] _ rfl (heap_alloc_new _ _) rfl (by simp[Value.oneCell']) (by omega) (by omega) (by have:=HE4.out.size;simp;omega) ?_;intro v9 w9 hown9 hg9;have HE9:Bx (ab w w9):=⟨(HE4.out.alloc _).grown hg9 (aq HOM.out.own)⟩;have HO9:Bx (da w.heap.size 47 13 fZ w9 v9 (ys++[(⟨⟨xt,xs,xq⟩,xk,xstr,xct,xch,⟨xts,xtq⟩,⟨xlp,xlc,xlg,xlv⟩⟩,D xA xn xcc)])):=⟨da.push hown9⟩;have HI9:Bx (w9.ownsRow w.heap.size 3 1 (D (some ⟨g2,0,none⟩) no co) out.length (out.map (Value.int .i64))):=⟨cO (ao HM.out.2.2.2.1 ((zE _).alloc _)) (HOM.out.ext ((zE _).alloc _)) (by decide) hg9⟩;clear hown9 hg9));go_roundw
     case rel =>
      refine⟨m+1,ys++[(⟨⟨xt,xs,xq⟩,xk,xstr,xct,xch,⟨xts,xtq⟩,⟨xlp,xlc,xlg,xlv⟩⟩,D xA xn xcc)],by go_num,by omega,by simp;omega,by simp;omega,⟨⟨HO9.out,fun y hy=>?_,?_,HI9.out,HE9.out⟩⟩⟩
      ·rcases zM.1 hy with hy|hy
       ·exact HM.out.2.1 y hy
       ·obtain rfl:y=_:=by simpa using hy
        exact HIX.out
      ·rw[yG,HM.out.2.2.1,ax HXO.out,AJ _ HX.out];rfl
     case measure=>simp[intOf];omega
    ·have HCN:Bx (ys.map Prod.fst=ay l):=⟨by rw[HM.out.2.2.1,bh (by have:=HON.out;omega)];exact FW HCK.out HSR.out⟩
     have HFI:Bx (jY w.heap.size p wr u11 ys/\∀y∈ys,R (fZ y) y.1):=⟨⟨HM.out.1,fun y hy=>⟨(HM.out.2.1 y hy).1.1.ext HE4.out,(HM.out.2.1 y hy).1.2⟩⟩,fun y hy=>(HM.out.2.1 y hy).2⟩
     go_wp2_with fail;go_ret2
     exact⟨_,ys,rfl,HFI.out.1,HCN.out,HFI.out.2,HE4.out⟩
theorem Cu(v:Value)(l:List aj)(w:World)(hp:p<w.heap.size)(hv:au p w v l)(hn:l.length<=300) :
  Calls prog 23 #[v] w fun e w'=>∃(vo:Value) (ys:List (aj×Value)),e=.returned (.tuple #[vo,B C 0])/\jY w.heap.size p w' vo ys/\ys.map Prod.fst=ay l/\ab w w' :=
 (qI (bR p w) v l w hp (fun _ _ h=>h) hv hn).mono fun _ _ ⟨vo,ys,h1,h2,h3,_,h5⟩=>⟨vo,ys,h1,h2,h3,h5⟩
theorem uh{z:Array Value}{k:Nat}{u:Value}(hk:k<n)(hu:z[k%z.size]! = u):(madeCells z n)[k]?=some u:=by unfold madeCells;rw[Array.getElem?_map,Array.getElem?_range,if_pos hk];simp[hu]
theorem Gh{α:Type}[DecidableEq α](lt:α->α->Bool)(l:List α):(CS lt l).length<=l.length:=by
 induction l using ic with
 |h0=>exact zX _
 |h1 l x ih =>
  rw[oJ,yU];unfold Fp;split
  ·simp;omega
  ·rw[FT];simp;omega
theorem Bd(l:List aj):(ay l).length<=l.length:=by have h1:=Gh rV (l.filter (qC l));have h2:=uP (qC l) l;unfold ay;omega
theorem FQ{s:List UInt8}{x:cJ}(h:dR s=some x):x.wf:=by
 unfold dR at h;split at h
 ·rename_i hx
  injection h with h;obtain⟨m,hm⟩:=hx.choose_spec;rw[h]at hm;by_cases hu:iM s=0
  ·obtain⟨d,er,kk,-,h2,h3⟩:=hm.2 hu;by_cases hk:kk=0
   ·by_cases hc:fK d<=9999
    ·obtain⟨e1,e2,e3,e4,-⟩:=(h3 hk).2 hc;have b0:=fT d 0;have b1:=fT d 1;have b2:=fT d 2;have b3:=fT d 3;have b4:=fT d 4;have b5:=fT d 5;unfold fK at e2;refine⟨⟨?_,?_⟩,⟨?_,?_⟩,⟨?_,?_⟩,⟨?_,?_⟩⟩<;>omega
    ·have:=((h3 hk).1 (by omega)).2.2.2.2.2;omega
   ·have:=(h2 hk).2.2.2.2.2;omega
  ·have:=(hm.1 hu).2.2.2.2.2;omega
 ·cases h
theorem kL:cJ.zero.wf:=⟨⟨by decide,by decide⟩,⟨by decide,by decide⟩,⟨by decide,by decide⟩,⟨by decide,by decide⟩⟩
theorem jo{l:List aj}{id:gT}{x:cJ}{st:Int}(hl:∀c∈l,c.wf)(h:aQ l id=(x,st)):x.wf:=by
 have hz:cJ.zero.wf:=kL;unfold aQ iI at h;split at h
 ·injection h with h;subst h;exact hz
 ·split at h
  ·rename_i d hd
   split at h
   ·injection h with h;subst h;exact hz
   ·injection h with h;subst h;exact (hl d (xR.1 (List.mem_of_getLast? hd)).1).2.2.2.2.2.1
  ·split at h
   ·rename_i y hy
    injection h with h;subst h;exact FQ hy
   ·injection h with h;subst h;exact hz
theorem gj{s:dl}{l:List aj}{c:aj}{lab:cJ}{st:Int}(hk:c.kind=1)(h:aQ l c.id=(lab,st)):aM s l c=⟨c,lab,if st=0 then (if bH s lab c.ch then 0 else 5) else st,decide (st=0)&&bH s lab c.ch⟩:=by unfold aM;rw[if_pos hk,h]
theorem sU{s:dl}{l:List aj}{c:aj}(hk:c.kind≠1):aM s l c=⟨c,cJ.zero,0,false⟩:=by unfold aM;rw[if_neg hk]
structure dA (R:List dH) (n i:Nat) (cL cS cF:Array Value):Prop where
 sL:cL.size=n*4
 sS:cS.size=n
 sF:cF.size=n
 lab:∀(k:Nat) x,R[k]?=some x->∀(j:Nat) u,(if k<i then x.lab else cJ.zero).cells[j]?=some u->cL[k*4+j]?=some u
 st:∀(k:Nat) x,R[k]?=some x->cS[k]?=some (B C (if k<i then x.st else 0))
 fit:∀(k:Nat) x,R[k]?=some x->cF[k]?=some (.bool (if k<i then x.fit else false))
section
variable {R:List dH} {n i:Nat} {cL cS cF cS' cF':Array Value} {x:dH}
theorem ng{l:cJ}{j:Nat}{u:Value}(h:l.cells[j]?=some u):j<4:=(zY.1 h).1
theorem dA.start(hn:R.length=n):dA R n 0 (madeCells #[B C 0,B C 0,B C 0,B C 0] (n*4)) (madeCells #[B C 0] n) (madeCells #[.bool false] n):=by
 refine⟨size_madeCells _ _,size_madeCells _ _,size_madeCells _ _,fun k x hx j u hu=>?_,fun k x hx=>?_,fun k x hx=>?_⟩
 ·have hk:=(zY.1 hx).1;have hj:=ng hu;rw[if_neg (by omega)]at hu;refine uh (by omega) ?_;rw[show (#[Value.int .i64 0,B C 0,B C 0,B C 0]:Array Value).size=4 from rfl,show (k*4+j)%4=j by omega];match j,hu with
  |0,hu=>simp[cJ.cells,cJ.zero]at hu;subst hu;rfl
  |1,hu=>simp[cJ.cells,cJ.zero]at hu;subst hu;rfl
  |2,hu=>simp[cJ.cells,cJ.zero]at hu;subst hu;rfl
  |3,hu=>simp[cJ.cells,cJ.zero]at hu;subst hu;rfl
  |j+4,hu=>omega
 ·have hk:=(zY.1 hx).1;rw[if_neg (by omega)];exact uh (by omega) (by simp[Nat.mod_one])
 ·have hk:=(zY.1 hx).1;rw[if_neg (by omega)];exact uh (by omega) (by simp[Nat.mod_one])
theorem dA.skip(h:dA R n i cL cS cF)(hx:R[i]?=some x)(h1:x.lab=cJ.zero)(h2:x.st=0)(h3:x.fit=false):dA R n (i+1) cL cS cF:=by
 refine⟨h.sL,h.sS,h.sF,fun k y hy j u hu=>?_,fun k y hy=>?_,fun k y hy=>?_⟩
 ·refine h.lab k y hy j u ?_;rcases xO k i with e|e|e
  ·rw[if_pos (by omega)]at hu;rw[if_pos e];exact hu
  ·subst e;rw[hx]at hy;injection hy with hy;subst hy
   rw[if_pos (by omega),h1]at hu;rw[if_neg (by omega)];exact hu
  ·rw[if_neg (by omega)]at hu;rw[if_neg (by omega)];exact hu
 ·rw[h.st k y hy];rcases xO k i with e|e|e
  ·rw[if_pos e,if_pos (by omega)]
  ·subst e;rw[hx]at hy;injection hy with hy;subst hy
   rw[if_neg (by omega),if_pos (by omega),h2]
  ·rw[if_neg (by omega),if_neg (by omega)]
 ·rw[h.fit k y hy];rcases xO k i with e|e|e
  ·rw[if_pos e,if_pos (by omega)]
  ·subst e;rw[hx]at hy;injection hy with hy;subst hy
   rw[if_neg (by omega),if_pos (by omega),h3]
  ·rw[if_neg (by omega),if_neg (by omega)]
def eK(c c':Array Value)(i:Nat)(u:Value):Prop:=c'.size=c.size/\c'[i]?=some u/\∀k,k≠i->c'[k]?=c[k]?
theorem eK.one{c:Array Value}(h:i<c.size)(u:Value):eK c (c.setIfInBounds i u) i u :=
 ⟨uN,by rw[vV];simp[h],fun k hk=>by rw[vV,if_neg (Ne.symm hk)]⟩
theorem eK.two{c c':Array Value}(h:eK c c' i v)(hi:i<c.size)(u:Value):eK c (c'.setIfInBounds i u) i u :=
 ⟨by rw[uN];exact h.1,by rw[vV];simp[h.1,hi],fun k hk=>by rw[vV,if_neg (Ne.symm hk)];exact h.2.2 k hk⟩
theorem dA.put(h:dA R n i cL cS cF)(hR:R.length=n)(hx:R[i]?=some x)(hS:eK cS cS' i (B C x.st))(hF:eK cF cF' i (.bool x.fit)):dA R n (i+1) (dJ cL (i*4) x.lab.cells) cS' cF':=by
 have hi:=(zY.1 hx).1;refine⟨?_,by rw[hS.1];exact h.sS,by rw[hF.1];exact h.sF,fun k y hy j u hu=>?_,fun k y hy=>?_,fun k y hy=>?_⟩
 ·rw[<-h.sL];simp only[cJ.cells,dJ,uN]
 ·have hj:=ng hu;have hk:=(zY.1 hy).1;rw[nD,show x.lab.cells.length=4 from rfl,h.sL];rcases xO k i with e|e|e
  ·rw[if_neg (by omega)];rw[if_pos (by omega)]at hu;exact h.lab k y hy j u (by rw[if_pos e];exact hu)
  ·subst e;rw[hx]at hy;injection hy with hy;subst hy
   rw[if_pos (by omega)]at hu;rw[if_pos ⟨by omega,by omega,by omega⟩,show k*4+j-k*4=j by omega];exact hu
  ·rw[if_neg (by omega)];rw[if_neg (by omega)]at hu;exact h.lab k y hy j u (by rw[if_neg (by omega)];exact hu)
 ·rcases xO k i with e|e|e
  ·rw[hS.2.2 k (by omega),h.st k y hy,if_pos e,if_pos (by omega)]
  ·subst e;rw[hx]at hy;injection hy with hy;subst hy
   rw[hS.2.1,if_pos (by omega)]
  ·rw[hS.2.2 k (by omega),h.st k y hy,if_neg (by omega),if_neg (by omega)]
 ·rcases xO k i with e|e|e
  ·rw[hF.2.2 k (by omega),h.fit k y hy,if_pos e,if_pos (by omega)]
  ·subst e;rw[hx]at hy;injection hy with hy;subst hy
   rw[hF.2.1,if_pos (by omega)]
  ·rw[hF.2.2 k (by omega),h.fit k y hy,if_neg (by omega),if_neg (by omega)]
theorem dA.fit0(h:dA R n i cL cS cF)(hx:R[i]?=some x):cF[i]?=some (.bool false):=by rw[h.fit i x hx,if_neg (by omega)]
end
section
variable {R:List dH} {s:dl} {l:List aj} {k n i:Nat} {x:dH} {cL cS cF:Array Value}
theorem Bb(hx:R[k]?=some x)(h:x.cap.kind≠1):aZ R (k+1)=aZ R k:=by rw[kC];unfold ry;rw[hx];simp[h]
theorem xh(hx:R[k]?=some x)(h:x.cap.kind=1):aZ R (k+1)=aZ R k++[lN R k x]:=by rw[kC];unfold ry;rw[hx];simp[h]
theorem kG(hx:R[k]?=some x)(h:¬(x.cap.kind=1/\cR R k x=1)):bW R (k+1)=bW R k:=by rw[jO];unfold pg1;rw[hx];simp only[uL];rw[if_neg h];simp
theorem ws(hx:R[k]?=some x)(h:x.cap.kind=1)(h2:cR R k x=1):bW R (k+1)=bW R k++[Gs x]:=by rw[jO];unfold pg1;rw[hx];simp only[uL];rw[if_pos ⟨h,h2⟩];rfl
end
theorem ah.far{α:Type}{R:List Value->α->Prop}{xs:List α}(h:ah base e size R w v xs){a:Addr}(ha:a.block<base)(u:Value):ah base e size R (w.setCell a u) v xs:=by obtain⟨css,h1,h2,h3,h4⟩:=h;exact⟨css,h1,h2,aN h3 (fun e=>by have:=aq h3 _ e;omega) u,h4⟩
theorem ah.base_{α:Type}{R:List Value->α->Prop}{xs:List α}(h:ah base e size R w v xs)(hb:b<=base):ah b e size R w v xs:=by obtain⟨css,h1,h2,h3,h4⟩:=h;exact⟨css,h1,h2,cd h3 hb,h4⟩
def aY:cJ:=⟨0,5,1,0⟩
def ip(str:List UInt8):aj:=⟨⟨1,1,0⟩,1,str,5,[],⟨0,0⟩,⟨0,0,0,0⟩⟩
def iD(str:List UInt8)(ct:Int):aj:=⟨⟨2,1,1⟩,1,str,ct,[],⟨0,0⟩,⟨0,0,0,0⟩⟩
section
variable {str:List UInt8} {ct:Int}
theorem zv:ay [iD str ct,ip str]=[ip str,iD str ct]:=by
 refine (ir ?_ fun c=>?_).symm
 ·exact xK.2 ⟨fun b hb=>by simp at hb;subst hb;rfl,xK.2 ⟨fun b hb=>by simp at hb,xE⟩⟩
 ·constructor
  ·intro h;have h2:c=ip str\/c=iD str ct:=by simpa using h
   refine⟨by simp;exact h2.symm,eu.2 ?_⟩;rcases h2 with rfl|rfl
   ·refine⟨rfl,fun d hd _ hi=>?_⟩;have hd2:d=iD str ct\/d=ip str:=by simpa using hd
    rcases hd2 with rfl|rfl
    ·exact absurd hi (by simp[aj.id,ip,iD])
    ·rfl
   ·refine⟨rfl,fun d hd _ hi=>?_⟩;have hd2:d=iD str ct\/d=ip str:=by simpa using hd
    rcases hd2 with rfl|rfl
    ·rfl
    ·exact absurd hi (by simp[aj.id,ip,iD])
  ·rintro⟨h,_⟩;have h2:c=iD str ct\/c=ip str:=by simpa using h
   simp;exact h2.symm
theorem qg(hr:dR str=some aY):af kg [ip str,iD str ct]=[⟨ip str,aY,0,true⟩,⟨iD str ct,aY,0,true⟩]:=by
 have hf:bH kg aY []=true:=JC (j:=1) (by decide);have h1:aQ [ip str,iD str ct] (ip str).id=(aY,0):=by
  show iI (some (ip str)) none=_
  unfold iI;show (match dR str with|some x=>(x,(0:Int))|none=>(cJ.zero,4))=_
  rw[hr]
 have h2:aQ [ip str,iD str ct] (iD str ct).id=(aY,0):=by
  show iI (some (iD str ct)) none=_
  unfold iI;show (match dR str with|some x=>(x,(0:Int))|none=>(cJ.zero,4))=_
  rw[hr]
 have e1:=gj (s:=kg) (c:=ip str) rfl h1;have e2:=gj (s:=kg) (c:=iD str ct) rfl h2;rw[show (ip str).ch=[] from rfl,hf]at e1;rw[show (iD str ct).ch=[] from rfl,hf]at e2;show [aM kg _ (ip str),aM kg _ (iD str ct)]=_
 rw[e1,e2];rfl
theorem iV(hr:dR str=some aY):cQ kg (ay [iD str 5,ip str])=⟨[⟨⟨1,0⟩,1,aY⟩,⟨⟨1,1⟩,2,aY⟩],[⟨5,1,5,[],⟨1,0⟩⟩]⟩:=by
 rw[zv];refine pp ?_ ?_ ?_ ?_
 ·exact xK.2 ⟨fun b hb=>by simp at hb;subst hb;rfl,xK.2 ⟨fun b hb=>by simp at hb,xE⟩⟩
 ·exact xK.2 ⟨fun b hb=>by simp at hb,xE⟩
 ·rw[qg hr];exact wN _
 ·rw[qg hr];exact wN _
theorem i7(hr:dR str=some aY):cQ kg (ay [iD str 6,ip str])=⟨[⟨⟨1,0⟩,3,aY⟩,⟨⟨1,1⟩,3,aY⟩],[]⟩:=by
 rw[zv];refine pp ?_ ?_ ?_ ?_
 ·exact xK.2 ⟨fun b hb=>by simp at hb;subst hb;rfl,xK.2 ⟨fun b hb=>by simp at hb,xE⟩⟩
 ·exact xE
 ·rw[qg hr];exact wN _
 ·rw[qg hr];exact wN _
end
theorem ql:dj 0 5 1 0=true:=rfl
theorem Ju:dR (ym 0 5 1 0)=some aY:=by rw[ni ql];exact Bi ql
theorem KI:Dn 0 5 1 0=0:=(n9 ql).2
theorem li{g:Nat}{xs:List Value}(hb:Bk w g xs.toArray e)(hl:xs.length=n*size)(hg:base<=g)(hn:n<=1000):w.ownsRow base e size (D (some ⟨g,0,none⟩) n n) n xs :=
 ⟨hl,.inr ⟨g,n,xs.toArray,rfl,hg,hb,zX _,by unfold maxLen;omega,by simp[hl],by rw[<-hl];simp⟩⟩
structure Ll (wx:World) (b c:Nat):Prop where
 bc:b+2<=c
 p0:Bk wx b jk.cells.toArray 131
 p2:Bk wx c #[B C 0,B C 0,D (some ⟨b,0,none⟩) 1 1] 84
 p3:Bk wx (c+1) #[B C 0] 3
 p4:Bk wx (c+1+1) #[D none 0 0,D (some ⟨c+1,0,none⟩) 1 1,D none 0 0,D none 0 0] 22
 p5:Bk wx (c+1+1+1) #[D (some ⟨c+1+1,0,none⟩) 4 4] 79
 p6:Bk wx (c+1+1+1+1) #[B C 5,B C 1,B C 0] 90
theorem Ll.isSit'{wx:World}{c:Nat}(h:Ll wx b c)(hp:p<b\/p=b+1):aR p wx (.agg #[B C 0,D (some ⟨c,0,none⟩) 1 1,D (some ⟨c+1+1+1,0,none⟩) 1 1,D (some ⟨c+1+1+1+1,0,none⟩) 1 1]) kg:=by
 have hbc:=h.bc;have hI0:ak p wx (D (some ⟨c+1,0,none⟩) 1 1) [0]:=ak.of_own (e:=3) (base:=b+2) (li (xs:=[B C 0]) h.p3 rfl (by omega) (by omega)) (by omega) (by decide) (by simp);have hP:oa p wx (D (some ⟨b,0,none⟩) 1 1) [jk]:=by
  refine⟨some ⟨b,0,none⟩,1,rfl,zX _,by omega,fun k x hx=>?_⟩;obtain⟨rfl,rfl⟩:k=0/\x=jk:=by have h1:=(zY.1 hx).1;simp at h1;subst h1;simp at hx;exact⟨rfl,hx.symm⟩
  refine⟨b,0,jk.cells,rfl,by omega,rfl,fun j u hu=>?_,rfl,?_⟩
  ·rw[show 0+0*6+j=j by omega];exact h.p0.cell (by simpa using hu)
  ·exact⟨by decide,by decide⟩
 have hB:oc p wx (D (some ⟨c+1+1,0,none⟩) 4 4) [[],[0],[],[]]:=by
  refine bj.of_own (e:=22) (base:=b+2) [[D none 0 0],[D (some ⟨c+1,0,none⟩) 1 1],[D none 0 0],[D none 0 0]] (fun cs hcs=>?_) (by decide) rfl (li (xs:=[D none 0 0,D (some ⟨c+1,0,none⟩) 1 1,D none 0 0,D none 0 0]) h.p4 rfl (by omega) (by omega)) (by omega) fun k cs x hc hx=>?_
  ·simp only[yM,wL,or_false]at hcs;rcases hcs with rfl|rfl|rfl|rfl<;>rfl
  ·rcases (show k=0\/k=1\/k=2\/k=3 by have:=(zY.1 hx).1;simp at this;omega) with rfl|rfl|rfl|rfl<;>(simp at hc hx;subst hc;subst hx)
   ·exact⟨_,rfl,ak.nil _ _⟩
   ·exact⟨_,rfl,hI0⟩
   ·exact⟨_,rfl,ak.nil _ _⟩
   ·exact⟨_,rfl,ak.nil _ _⟩
 refine⟨_,_,_,rfl,?_,?_,?_,by decide,by decide⟩
 ·refine bj.of_own (e:=84) (base:=b+2) [[B C 0,B C 0,D (some ⟨b,0,none⟩) 1 1]] (fun cs hcs=>by simp at hcs;subst hcs;rfl) (by decide) rfl (li (xs:=[B C 0,B C 0,D (some ⟨b,0,none⟩) 1 1]) h.p2 rfl (by omega) (by omega)) (by omega) fun k cs x hc hx=>?_;obtain rfl:k=0:=by have:=(zY.1 hc).1;simp at this;exact this
  simp[kg]at hc hx;subst hc;subst hx;exact⟨_,rfl,hP,⟨by decide,by decide⟩,⟨by decide,by decide⟩⟩
 ·refine bj.of_own (e:=79) (base:=b+2) [[D (some ⟨c+1+1,0,none⟩) 4 4]] (fun cs hcs=>by simp at hcs;subst hcs;rfl) (by decide) rfl (li (xs:=[D (some ⟨c+1+1,0,none⟩) 4 4]) h.p5 rfl (by omega) (by omega)) (by omega) fun k cs x hc hx=>?_;obtain rfl:k=0:=by have:=(zY.1 hc).1;simp at this;exact this
  simp[kg]at hc hx;subst hc;subst hx;exact⟨_,rfl,hB⟩
 ·refine bj.of_own (e:=90) (base:=b+2) [[B C 5,B C 1,B C 0]] (fun cs hcs=>by simp at hcs;subst hcs;rfl) (by decide) rfl (li (xs:=[B C 5,B C 1,B C 0]) h.p6 rfl (by omega) (by omega)) (by omega) fun k cs x hc hx=>?_;obtain rfl:k=0:=by have:=(zY.1 hc).1;simp at this;exact this
  simp[kg]at hc hx;subst hc;subst hx;exact⟨rfl,by decide,by decide,by decide⟩
theorem Ll.isSit{wx:World}{b c:Nat}(h:Ll wx b c):aR (b+1) wx (.agg #[B C 0,D (some ⟨c,0,none⟩) 1 1,D (some ⟨c+1+1+1,0,none⟩) 1 1,D (some ⟨c+1+1+1+1,0,none⟩) 1 1]) kg:=h.isSit' (.inr rfl)
theorem dX(w:World)(hp:p<w.heap.size):Calls prog 54 #[] w fun e w'=>∃v,e=.returned v/\aR p w' v kg/\ab w w':=by
 go_enter func54,ntmps54
 go_upto_region 2 with (fail)
 obtain⟨w2,hw2⟩:=nm ((((w.alloc (.cells #[B C 0,D none 0 0,D none 0 0,D none 0 0] 27)).alloc (.cells #[B C 1,B C 3,B C 0,B C 0,B C 0,B C 0] 131)).alloc (.cells #[B C 0,B C 0,D (some ⟨w.heap.size+1,0,none⟩) 1 1] 84)):World);have HF2:Bx (aA w w2 [(w.heap.size,#[B C 0,D none 0 0,D none 0 0,D none 0 0],27),(w.heap.size+1,#[B C 1,B C 3,B C 0,B C 0,B C 0,B C 0],131),(w.heap.size+1+1,#[B C 0,B C 0,D (some ⟨w.heap.size+1,0,none⟩) 1 1],84)]):=⟨by rw[hw2];exact (((aA.start w).push _ _ rfl).push _ _ (by simp)).push _ _ (by simp)⟩
 have hs2:w2.heap.size=w.heap.size+3:=by rw[hw2];simp
 rw[<-hw2];clear hw2;obtain⟨p0,p1,p2⟩:=(HF2.out.at_ 2 rfl).p3 rfl;obtain⟨r0,r1,r2,r3⟩:=(HF2.out.at_ 0 rfl).p4 rfl;have f0:=(HF2.out.at_ 0 rfl).froz;have f1:=f0;have f2:=f0;have f3:=f0;go_wp2_with fail;have h9:=HF2.out.setAll 0 rfl [B C 0,D (some ⟨w.heap.size+3,0,none⟩) 1 1,D (some ⟨w.heap.size+3+1+1+1,0,none⟩) 1 1,D (some ⟨w.heap.size+3+1+1+1+1,0,none⟩) 1 1] rfl;have z9:(be w2 w.heap.size 0 [B C 0,D (some ⟨w.heap.size+3,0,none⟩) 1 1,D (some ⟨w.heap.size+3+1+1+1,0,none⟩) 1 1,D (some ⟨w.heap.size+3+1+1+1+1,0,none⟩) 1 1]).heap.size=w.heap.size+3:=by rw[<-hs2];simp[be]
 have h14:=((((h9.push #[B C 0,B C 0,D (some ⟨w.heap.size+1,0,none⟩) 1 1] 84 z9).push #[B C 0] 3 (n:=w.heap.size+3+1) (by simp[z9])).push #[D none 0 0,D (some ⟨w.heap.size+3+1,0,none⟩) 1 1,D none 0 0,D none 0 0] 22 (n:=w.heap.size+3+1+1) (by simp[z9])).push #[D (some ⟨w.heap.size+3+1+1,0,none⟩) 4 4] 79 (n:=w.heap.size+3+1+1+1) (by simp[z9])).push #[B C 5,B C 1,B C 0] 90 (n:=w.heap.size+3+1+1+1+1) (by simp[z9]);simp only[be,yV]at h14;revert h14
 generalize (World.alloc _ (.cells #[B C 5,B C 1,B C 0] 90))=wF;intro h14;obtain⟨q0,q1,q2,q3⟩:=(h14.at_ 0 rfl).p4 rfl;have hB:Ll wF (w.heap.size+1) (w.heap.size+3):=⟨by omega,h14.at_ 1 rfl,h14.at_ 3 rfl,h14.at_ 4 rfl,h14.at_ 5 rfl,h14.at_ 6 rfl,h14.at_ 7 rfl⟩
 refine bodyPost_ret (v:=.agg #[B C 0,D (some ⟨w.heap.size+3,0,none⟩) 1 1,D (some ⟨w.heap.size+3+1+1+1,0,none⟩) 1 1,D (some ⟨w.heap.size+3+1+1+1+1,0,none⟩) 1 1]) (by simp[results,results54,go_sem,q0,q1,q2,q3]) rfl ⟨_,rfl,hB.isSit' (.inl (by omega)),h14.xt⟩
end Go.Proofs.YtkaajgoeahahpaaGreatDoor

