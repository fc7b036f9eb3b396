import Derived.Test.YtpaidaphacoblaaGreatDoorK33
import Derived.Maps.Own
import Derived.Maps.AppendAt
import Derived.DeepKeys4
set_option linter.all false
set_option maxRecDepth 100000
set_option maxHeartbeats 0
namespace Go.Proofs.YtpaidaphacoblaaGreatDoor
open Go.Value renaming int→C,slice→G
open Go.IntKind renaming i64→D
open Go.RowKit
variable {p q:Nat}
section
variable {s:dl}
theorem sT{x y:dH}:en x y=en y x:=by unfold en;rw[yE];simp only[uY,Bool.and_eq_false_iff,decide_eq_false_iff_not];exact⟨fun h=>h.imp (fun k e=>k e.symm) (fun k e=>k e.symm),fun h=>h.imp (fun k e=>k e.symm) (fun k e=>k e.symm)⟩
theorem BV{x y z:dH}(h:en x y=true):en x z=true\/en z y=true:=by
 unfold en at *
 simp only[uY,Bool.and_eq_false_iff,decide_eq_false_iff_not]at *;by_cases h1:z.cap.cont=x.cap.cont
 ·by_cases h2:z.cap.ch=x.cap.ch
  ·refine .inr ?_;rw[h1,h2];exact h
  ·exact .inl (.inr h2)
 ·exact .inl (.inl h1)
end
def IM(R:List dH)(c g:Int)(j:Nat):Bool:=match R[j]? with
 |some y=>y.fit&&(decide (y.lab.c=c)&&decide (y.lab.g=g))
 |none=>false
def ed(R:List dH)(k:Nat)(c g:Int):List Nat:=(List.range k).filter (IM R c g)
def kr(R:List dH)(y0:dH)(j:Nat):Bool:=match R[j]? with
 |some y=>en y0 y
 |none=>false
theorem zp(R:List dH)(k:Nat)(c g:Int):ed R (k+1) c g=if IM R c g k then ed R k c g++[k] else ed R k c g:=by
 unfold ed;rw[xP,xM];cases h:IM R c g k with
 |true=>rw[if_pos rfl,uC h];rfl
 |false=>rw[if_neg (by simp),uB (by simp[h])];simp
theorem lh{R:List dH}{k j:Nat}{c g:Int}:j∈ed R k c g↔j<k/\IM R c g j=true:=by unfold ed;rw[xR,yX]
section
variable {s:dl} {l:List aj}
theorem kq{i j:Nat}{x y:dH}(hx:(af s l)[i]?=some x)(hfx:x.fit=true)(hy:(af s l)[j]?=some y):IM (af s l) x.lab.c x.lab.g j=dB x y:=by
 unfold IM dB;rw[hy];simp only;cases hf:y.fit with
 |false=>rfl
 |true =>
  rw[yK,yK,yE];simp only[yT,decide_eq_true_eq];constructor
  ·rintro⟨h1,h2⟩;have ex:=(de hx).2;have ey:=(de hy).2;have gx:=(lK (s:=s) (l:=l) (c:=x.cap) (by rw[<-ex];exact hfx)).2.1;have gy:=(lK (s:=s) (l:=l) (c:=y.cap) (by rw[<-ey];exact hf)).2.1;rw[<-ex]at gx;rw[<-ey]at gy;exact BT gy gx h1 h2
  ·intro h;rw[h];exact⟨rfl,rfl⟩
theorem Ex{i:Nat}{x:dH}(hx:(af s l)[i]?=some x)(hf:x.fit=true) :
  ∃j0 t y0,ed (af s l) l.length x.lab.c x.lab.g=j0::t/\j0<=i/\(af s l)[j0]?=some y0 /\
   dL (af s l) i x=if (j0::t).any (kr (af s l) y0) then 3 else if i=j0 then 1 else 2:=by
 have hil:i<l.length:=by have:=(zY.1 hx).1;rwa [jw]at this
 have hin:i∈ed (af s l) l.length x.lab.c x.lab.g:=lh.2 ⟨hil,by rw[kq hx hf hx];unfold dB;rw[hf];simp⟩;obtain⟨j0,t,hG⟩:∃j0 t,ed (af s l) l.length x.lab.c x.lab.g=j0::t:=by
  cases hg:ed (af s l) l.length x.lab.c x.lab.g with
  |nil=>rw[hg]at hin;simp at hin
  |cons a b=>exact⟨a,b,rfl⟩
 have hj0:=lh.1 (show j0∈ed (af s l) l.length x.lab.c x.lab.g by rw[hG];simp);have hy0:(af s l)[j0]?=some ((af s l)[j0]'(by rw[jw];exact hj0.1)):=zV _;generalize (af s l)[j0]'(by rw[jw];exact hj0.1)=y0 at hy0;have hasc:(j0::t).Pairwise (·<·):=by rw[<-hG];unfold ed;exact List.Pairwise.filter _ List.pairwise_lt_range
 have hj0i:j0<=i:=by
  rw[hG]at hin;rcases yM.1 hin with e|e
  ·omega
  ·have:=(xK.1 hasc).1 i e;omega
 refine⟨j0,t,y0,hG,hj0i,hy0,?_⟩;have hs0:dB x y0=true:=by rw[<-kq hx hf hy0];exact hj0.2
 unfold dL;have hany:((af s l).any fun y=>dB x y&&en x y)=(j0::t).any (kr (af s l) y0):=by
  rw[yE,wZ,wZ];constructor
  ·rintro⟨y,hy,hs⟩;obtain⟨h1,h2⟩:=Bool.and_eq_true_iff.1 hs;obtain⟨k,hk⟩:=zH hy;have hkl:k<l.length:=by have:=(zY.1 hk).1;rwa [jw]at this
   rcases BV (z:=y0) h2 with h3|h3
   ·refine⟨i,by rw[<-hG];exact hin,?_⟩;unfold kr;rw[hx];simp only;rw[sT];exact h3
   ·refine⟨k,?_,?_⟩
    ·rw[<-hG];exact lh.2 ⟨hkl,by rw[kq hx hf hk];exact h1⟩
    ·unfold kr;rw[hk];exact h3
  ·rintro⟨k,hk,hd⟩;rw[<-hG]at hk;obtain⟨h1,h2⟩:=lh.1 hk;unfold kr at hd;cases hy:(af s l)[k]? with
   |none=>rw[hy]at hd;cases hd
   |some y =>
    rw[hy]at hd;simp only at hd;rw[kq hx hf hy]at h2;rcases BV (z:=x) hd with h3|h3
    ·exact⟨y0,zW hy0,by rw[hs0,sT,h3];rfl⟩
    ·exact⟨y,zW hy,by rw[h2,h3];rfl⟩
 have htk:((af s l).take i).any (dB x)=!decide (i=j0):=by
  by_cases e:i=j0
  ·subst e;rw[decide_eq_true rfl];simp only[Bool.not_true,wO];intro y hy hs;obtain⟨k,hk⟩:=zH hy;rw[yB]at hk;split at hk
   ·rename_i hki
    have hm:k∈ed (af s l) l.length x.lab.c x.lab.g:=lh.2 ⟨by omega,by rw[kq hx hf hk];exact hs⟩;rw[hG]at hm;rcases yM.1 hm with e|e
    ·omega
    ·have:=(xK.1 hasc).1 k e;omega
   ·cases hk
  ·rw[decide_eq_false e];simp only[Bool.not_false,wZ];refine⟨y0,zW (i:=j0) ?_,hs0⟩;rw[yB,if_pos (by omega)];exact hy0
 rw[hany,htk];by_cases e:i=j0
 ·simp[e]
 ·simp[e]
end
open _root_.Go.Proofs.Tryz
theorem yo(va vb:Value)(a b:List Int)(w:World)(ha:ak p w va a)(hb:ak q w vb b) :
  Calls prog 70 #[va,vb] w fun e w'=>e=.returned (.bool (decide (a=b)))/\ab w w':=by
 obtain⟨A,n,c,rfl,hnc,hc,hnn,HL⟩:=ha.open_;obtain⟨B,n',c',rfl,hnc',hc',hnn',HL'⟩:=hb.open_;have HA:=zZ ha;have HB:=zZ hb;clear ha hb;by_cases hn:n=n'
 ·subst hn;have e0:((n:Int)!=(n:Int))=false:=by simp
  go_enter func70,ntmps70
  go_wp2_with fail;go_loopw [13] (fun i wr=>∃(k m:Nat),k<=n/\i=C D k/\Hid (rB a b k)/\wr=w.drewN m) (fun i _=>n-(intOf i).toNat)
  case atStart=>exact⟨0,0,xL _,rfl,rB.zero _ _,rfl⟩
  case round =>
   obtain⟨k,m,hk,rfl,HK,rfl⟩:=hrel;by_cases hlt:k<n
   ·obtain⟨b1,o1,x,rfl,hcx,HX,hx1,hx2⟩:=HA.out.at_ hlt;obtain⟨b2,o2,y,rfl,hcy,HY,hy1,hy2⟩:=HB.out.at_ hlt;by_cases e:x=y
    ·have e1:(x != y)=false:=by simp[e]
     have E:=zZ e;clear e;go_wp2_with fail;go_quiet (fail)
     go_wp2_with fail;go_roundw
     case rel=>exact⟨k+1,_,by omega,by go_num,HK.out.succ HX.out HY.out E.out,rfl⟩
     case measure=>simp[intOf];omega
    ·have e1:(x != y)=true:=by simp[e]
     have E:=zZ e;clear e;go_wp2_with fail;go_quiet (fail)
     go_wp2_with fail;go_ret
     exact⟨aa (by have:=JZ HX.out HY.out E.out;simp[this]),by rw[World.drewN_drewN];exact (zE _).drewN _⟩
   ·obtain rfl:k=n:=by omega
    go_wp2_with fail;go_ret
    exact⟨aa (by have:=HK.out.all HL.out HL'.out;simp[this]),(zE _).drewN _⟩
 ·have e1:((n:Int)!=(n':Int))=true:=by simp;omega
  have HN:Hid (a≠b):=by rintro rfl;exact hn (HL.out.symm.trans HL'.out)
  clear hn;go_enter func70,ntmps70
  go_wp2_with fail;go_ret
  exact⟨aa (by have:=HN.out;simp[this]),zE _⟩
theorem jq(xt xs xq xk xct xts xtq xlp xlc xlg xlv yt ys yq yk yct yts ytq ylp ylc ylg ylv:Int)(xstr ystr:List UInt8)(xch ych:List Int)(xA yA:Option Addr)(xn xcc yn ycc:Nat)(w:World)(ha:ak p w (G xA xn xcc) xch)(hb:ak q w (G yA yn ycc) ych) :
  Calls prog 63 #[.agg #[C D xt,C D xs,C D xq,C D xk,.string (ba xstr),C D xct,G xA xn xcc,C D xts,C D xtq,C D xlp,C D xlc,C D xlg,C D xlv],.agg #[C D yt,C D ys,C D yq,C D yk,.string (ba ystr),C D yct,G yA yn ycc,C D yts,C D ytq,C D ylp,C D ylc,C D ylg,C D ylv]] w fun e w'=>e=.returned (.bool (decide ((⟨⟨xt,xs,xq⟩,xk,xstr,xct,xch,⟨xts,xtq⟩,⟨xlp,xlc,xlg,xlv⟩⟩:aj)=⟨⟨yt,ys,yq⟩,yk,ystr,yct,ych,⟨yts,ytq⟩,⟨ylp,ylc,ylg,ylv⟩⟩)))/\ab w w':=by
 have e1:=fun W=>vx xt xs xq yt ys yq W;have e2:=fun W=>jW xts xtq yts ytq W;have e3:=fun W=>ox xlp xlc xlg xlv ylp ylc ylg ylv W;have g1:=nt;have g2:=fC;have g3:=ij;have HA:Bx (ak p w (G xA xn xcc) xch/\ak q w (G yA yn ycc) ych):=⟨⟨ha,hb⟩⟩
 clear ha hb;go_enter func63,ntmps63
 go_wp2_with (go_at_call 70;refine (yo _ _ xch ych _ (HA.out.1.ext (((zE _).alloc _).alloc _)) (HA.out.2.ext (((zE _).alloc _).alloc _))).mono ?_;rintro e w1 ⟨rfl,hx1⟩;have HE:=zZ ((((zE w).alloc _).alloc _).trans hx1);have q07:w1.cell? ⟨w.heap.size,7,none⟩=some (C D xts):=hx1.cell (by simp[go_sem,yI,yH]);have q08:w1.cell? ⟨w.heap.size,8,none⟩=some (C D xtq):=hx1.cell (by simp[go_sem,yI,yH]);have q09:w1.cell? ⟨w.heap.size,9,none⟩=some (C D xlp):=hx1.cell (by simp[go_sem,yI,yH]);have q010:w1.cell? ⟨w.heap.size,10,none⟩=some (C D xlc):=hx1.cell (by simp[go_sem,yI,yH]);have q011:w1.cell? ⟨w.heap.size,11,none⟩=some (C D xlg):=hx1.cell (by simp[go_sem,yI,yH]);have q012:w1.cell? ⟨w.heap.size,12,none⟩=some (C D xlv):=hx1.cell (by simp[go_sem,yI,yH]);have q17:w1.cell? ⟨w.heap.size+1,7,none⟩=some (C D yts):=hx1.cell (by simp[go_sem,yI,yH]);have q18:w1.cell? ⟨w.heap.size+1,8,none⟩=some (C D ytq):=hx1.cell (by simp[go_sem,yI,yH]);have q19:w1.cell? ⟨w.heap.size+1,9,none⟩=some (C D ylp):=hx1.cell (by simp[go_sem,yI,yH]);have q110:w1.cell? ⟨w.heap.size+1,10,none⟩=some (C D ylc):=hx1.cell (by simp[go_sem,yI,yH]);have q111:w1.cell? ⟨w.heap.size+1,11,none⟩=some (C D ylg):=hx1.cell (by simp[go_sem,yI,yH]);have q112:w1.cell? ⟨w.heap.size+1,12,none⟩=some (C D ylv):=hx1.cell (by simp[go_sem,yI,yH]);clear hx1);all_goals (go_ret;refine⟨aa ?_,?_⟩)
 all_goals (first|exact HE.out|exact ((zE _).alloc _).alloc _|(rw[yE];simp only[decide_eq_true_eq,J4];simp_all)|skip)
 all_goals trace_state
theorem ui(t s q k ct ts tq lp lc lg lv:Int)(b:ByteArray)(A:Option Addr)(n cc:Nat)(w:World) :
  Calls prog 32 #[.agg #[C D t,C D s,C D q,C D k,.string b,C D ct,G A n cc,C D ts,C D tq,C D lp,C D lc,C D lg,C D lv]] w fun e w'=>e=.returned (.agg #[C D s,C D q])/\ab w w':=by
 go_enter func32,ntmps32
 go_wp2_with fail;exact bodyPost_ret (v:=.agg #[C D s,C D q]) (by simp[results,results32,go_sem]) rfl ⟨rfl,((zE _).alloc _).alloc _⟩
theorem Ih(t s q k ct ts tq lp lc lg lv:Int)(b:ByteArray)(A:Option Addr)(n cc:Nat)(w:World) :
  Calls prog 62 #[.agg #[C D t,C D s,C D q,C D k,.string b,C D ct,G A n cc,C D ts,C D tq,C D lp,C D lc,C D lg,C D lv]] w fun e w'=>e=.returned (.agg #[C D t,C D s,C D q])/\ab w w':=by
 go_enter func62,ntmps62
 go_wp2_with fail;exact bodyPost_ret (v:=.agg #[C D t,C D s,C D q]) (by simp[results,results62,go_sem]) rfl ⟨rfl,((zE _).alloc _).alloc _⟩
def pb(l:List aj)(y:aj)(j:Nat):Bool:=match l[j]? with
 |some z=>!(decide (z.cont=y.cont)&&decide (z.ch=y.ch))
 |none=>false
def FZ(b:Bool)(i j0:Nat):Int:=if b then 3 else if i=j0 then 1 else 2
theorem uc(v vg:Value)(l:List aj)(js:List Nat)(i j0:Nat)(y0:aj)(w:World)(hv:au p w v l)(hg:ak q w vg (js.map fun j:Nat=>(j:Int)))(h0:js[0]?=some j0)(hy:l[j0]?=some y0)(hin:∀j∈js,j<l.length) :
  Calls prog 34 #[v,vg,C D (i:Int)] w fun e w'=>e=.returned (C D (FZ (js.any (pb l y0)) i j0))/\ab w w':=by
 obtain⟨A,n,c,rfl,hnc,hcc,hnn,HL⟩:=hv.open_;obtain⟨B,m,cb,rfl,hmb,hcb,hmm,HM⟩:=hg.open_;have HV:Bx (au p w (G A n c) l):=⟨hv⟩
 have HML:Hid (js.length=m):=by have:=HM.out;show js.length=m;simpa using this
 have hm0:0<m:=by have:=(zY.1 h0).1;have:=HML.out;omega
 have hj0:j0<n:=by have:=(zY.1 hy).1;have:=HL.out;omega
 have HIN:=zZ hin;obtain⟨bB,oB,x,rfl,g0,HX0,-,-⟩:=hg.at_ hm0;have HG:Bx (ak q w (G (some ⟨bB,oB,none⟩) m cb) (js.map fun j:Nat=>(j:Int))):=⟨hg⟩
 obtain rfl:x=(j0:Int):=by have:=HX0.out;rw[zP,h0]at this;simpa using this.symm
 obtain⟨bA,oA,_,_,rfl,-⟩:=HV.out.at_ hj0;obtain⟨t,s,q',kd,ct,ts,tq,lp,lc,lg,lv,str,ch,Au,mu,cu,HX,hcs,hI0,-⟩:=au.read HV.out (XT.refl p w) hj0;obtain rfl:y0=⟨⟨t,s,q'⟩,kd,str,ct,ch,⟨ts,tq⟩,⟨lp,lc,lg,lv⟩⟩:=by have:=HX.out;rw[hy]at this;injection this
 have HI0:Bx (ak p w (G Au mu cu) ch):=⟨hI0⟩
 obtain⟨c0,c1,c2,c3,c4,c5,c6,c7,c8,c9,c10,c11,c12⟩:=hcs;rw[yQ]at g0;have HG0:=zZ g0;have HD:Bx (∀j z,l[j]?=some z->pb l ⟨⟨t,s,q'⟩,kd,str,ct,ch,⟨ts,tq⟩,⟨lp,lc,lg,lv⟩⟩ j=!(decide (z.cont=ct)&&decide (z.ch=ch))):=⟨fun j z hz=>by unfold pb;rw[hz]⟩
 clear hv hg hin h0 hy hI0 HX HX0;obtain⟨w1,hw1⟩:=nm ((w.alloc (.cells #[C D t,C D s,C D q',C D kd,.string (ba str),C D ct,G Au mu cu,C D ts,C D tq,C D lp,C D lc,C D lg,C D lv] 41)):World);have HF:Bx (aA w w1 [(w.heap.size,#[C D t,C D s,C D q',C D kd,.string (ba str),C D ct,G Au mu cu,C D ts,C D tq,C D lp,C D lc,C D lg,C D lv],41)]):=⟨by rw[hw1];exact (aA.start w).push _ _ rfl⟩
 go_enter func34,ntmps34
 go_upto_region 2 with (fail)
 rw[<-hw1];clear hw1 c0 c1 c2 c3 c4 c5 c6 c7 c8 c9 c10 c11 c12 g0;go_wp2_with fail;go_loopw [18] (fun s18 wr=>∃k:Nat,s18=C D k/\k<=m/\Bx (aA w wr [(w.heap.size,#[C D t,C D s,C D q',C D kd,.string (ba str),C D ct,G Au mu cu,C D ts,C D tq,C D lp,C D lc,C D lg,C D lv],41)]/\∀(x:Nat) j,x<k->js[x]?=some j->pb l ⟨⟨t,s,q'⟩,kd,str,ct,ch,⟨ts,tq⟩,⟨lp,lc,lg,lv⟩⟩ j=false)) (fun k _=>m-(intOf k).toNat)
 case atStart=>exact⟨0,rfl,by omega,⟨⟨HF.out,fun x j hx=>by omega⟩⟩⟩
 case round =>
  obtain⟨k,rfl,hk,HR⟩:=hrel;have HFr:Bx (aA w wr [(w.heap.size,#[C D t,C D s,C D q',C D kd,.string (ba str),C D ct,G Au mu cu,C D ts,C D tq,C D lp,C D lc,C D lg,C D lv],41)]):=⟨HR.out.1⟩
  have HN:=zZ HR.out.2;clear HF HR;by_cases hkm:k<m
  ·obtain⟨x,gk,HXk,-,-⟩:=(HG.out.ext HFr.out.xt).cell_ hkm;obtain⟨j,HJ,hxj⟩:∃j:Nat,Hid (js[k]?=some j)/\x=(j:Int):=by
    have:=HXk.out;rw[zP,yO]at this;obtain⟨j,h1,h2⟩:=this;exact⟨j,h1,h2.symm⟩
   subst hxj;have hjn:j<n:=by have:=HIN.out j (zW HJ.out);have:=HL.out;omega
   obtain⟨t',s',q'',kd',ct',ts',tq',lp',lc',lg',lv',str',ch',Au',mu',cu',HX,hcs,hI',-⟩:=au.read HV.out HFr.out.xt.xt hjn;have HI':Bx (ak p wr (G Au' mu' cu') ch'):=⟨hI'⟩
   have x5:=hcs.c5;have x6:=hcs.c6;have y5:=(HFr.out.at_ 0 rfl).c 5 rfl;have y6:=(HFr.out.at_ 0 rfl).c 6 rfl;have HDJ:=zZ (HD.out j _ HX.out);clear hcs hI' HXk HX;simp only at HDJ;go_upto_region 5 with (fail)
   by_cases hct:ct'=ct
   ·have hcb1:(ct' != ct)=false:=by simp[hct]
    have HDK:=zZ (show pb l ⟨⟨t,s,q'⟩,kd,str,ct,ch,⟨ts,tq⟩,⟨lp,lc,lg,lv⟩⟩ j=!decide (ch'=ch) by rw[HDJ.out,decide_eq_true hct];rfl);replace hct:=zZ hct;refine zQ 99 fun wd kS=>?_;refine zS 16 [(0,22),(1,23),(2,24),(3,25),(4,26),(5,27),(6,28),(7,29),(8,30),(9,31),(10,32),(11,33),(12,34),(13,35),(14,36),(15,37)] kS ?_;iterate 16 refine zT ?_ (y:=by intro wk hk;obtain⟨_,_,_,_⟩:=zkc4 hk x5 x6 y5 y6;go_simp;try with_reducible rfl)
    refine zN (zO 16 (fun K hK=>?_));go_simp;refine (yo _ _ ch' ch _ (HI'.out.ext kS) (HI0.out.ext (HFr.out.xt.trans kS))).mono ?_;rintro e w3 ⟨rfl,hx3⟩;have kS2:ab wr w3:=kS.trans hx3;clear hx3;refine hK.out _ _ (fun _=>kS2) ?_;clear hK K;try simp only[kA]
    by_cases hch:ch'=ch
    ·have hd:decide (ch'=ch)=true:=decide_eq_true hch;have HE:=zZ (show pb l ⟨⟨t,s,q'⟩,kd,str,ct,ch,⟨ts,tq⟩,⟨lp,lc,lg,lv⟩⟩ j=false by rw[HDK.out,hd];rfl);replace hch:=zZ hch;rw[hd];clear hd;refine zS 2 [(17,39),(18,40)] kS2 ?_;iterate 2 refine zT ?_
     refine zN (zD ?_);go_wp2_with fail;go_roundw
     case rel=>exact⟨k+1,by go_num,by omega,⟨⟨HFr.out.ext kS2,fun x y hx hy=>by rcases zU x k with h|h;exact HN.out x y h hy;obtain rfl:x=k:=(by omega);rw[HJ.out]at hy;injection hy with hy;subst hy;exact HE.out⟩⟩⟩
     case measure=>simp[intOf];omega
    ·have hd:decide (ch'=ch)=false:=decide_eq_false hch;have HE:=zZ (show js.any (pb l ⟨⟨t,s,q'⟩,kd,str,ct,ch,⟨ts,tq⟩,⟨lp,lc,lg,lv⟩⟩)=true from wZ.2 ⟨j,zW HJ.out,by rw[HDK.out,hd];rfl⟩);replace hch:=zZ hch;rw[hd];clear hd;refine zS 2 [(17,39),(18,40)] kS2 ?_;iterate 2 refine zT ?_
     refine zN (zD ?_);go_wp2_with fail;go_ret
     exact⟨ag (by rw[HE.out];rfl),HFr.out.xt.trans kS2⟩
   ·have hcb1:(ct' != ct)=true:=by simp[hct]
    have HE:=zZ (show js.any (pb l ⟨⟨t,s,q'⟩,kd,str,ct,ch,⟨ts,tq⟩,⟨lp,lc,lg,lv⟩⟩)=true from wZ.2 ⟨j,zW HJ.out,by rw[HDJ.out,decide_eq_false hct];rfl⟩);replace hct:=zZ hct;refine zQ 99 fun wd kS=>?_;refine zS 19 [(0,22),(1,23),(2,24),(3,25),(4,26),(5,27),(6,28),(7,29),(8,30),(9,31),(10,32),(11,33),(12,34),(13,35),(14,36),(15,37),(16,38),(17,39),(18,40)] kS ?_;iterate 9 refine zT ?_ (y:=by intro wk hk;obtain⟨_,_,_,_⟩:=zkc4 hk x5 x6 y5 y6;go_simp;try with_reducible rfl)
    iterate 9 (apply zK;exact⟨rfl,rfl⟩;simp only[kA];exact rfl)
    refine zT ?_ (y:=by intro wk hk;obtain⟨_,_,_,_⟩:=zkc4 hk x5 x6 y5 y6;go_simp;try with_reducible rfl);refine zN (zD ?_);go_wp2_with fail;go_ret
    exact⟨ag (by rw[HE.out];rfl),HFr.out.xt.trans kS⟩
  ·obtain rfl:m=k:=by omega
   have HE:=zZ (show js.any (pb l ⟨⟨t,s,q'⟩,kd,str,ct,ch,⟨ts,tq⟩,⟨lp,lc,lg,lv⟩⟩)=false from wO.2 fun j hj=>by obtain⟨x,hx⟩:=zH hj;rw[HN.out x j (by have:=(zY.1 hx).1;have:=HML.out;omega) hx];simp)
   have gk:=HFr.out.xt.cell HG0.out;by_cases hi:i=j0
   ·subst hi;have hib:((i:Int)==(i:Int))=true:=by simp
    go_wp2_with fail;go_ret
    exact⟨ag (by rw[HE.out];unfold FZ;simp),HFr.out.xt⟩
   ·have hib:((i:Int)==(j0:Int))=false:=beq_eq_false_iff_ne.2 (by omega);have HI:=zZ hi;clear hi;go_wp2_with fail;go_ret
    exact⟨ag (by rw[HE.out];unfold FZ;rw[if_neg HI.out];rfl),HFr.out.xt⟩
end Go.Proofs.YtpaidaphacoblaaGreatDoor

namespace Go.Proofs.YtpaidaphacoblaaGreatDoor
open Go.Value renaming int→C,slice→G
open Go.IntKind renaming i64→D
open Go.RowKit _root_.Go.Proofs.Tryz
open Go.Maps (Keyed)
theorem ti:Keyed prog 35:=Keyed.of_law (deep_law_laid (m:=3) (by kernel_rfl) (by decide) (of_decide_eq_true (by kernel_rfl)) (by kernel_rfl) (by kernel_rfl))
theorem pm:Keyed prog 101:=Keyed.of_law (deep_law_laid (m:=3) (by kernel_rfl) (by decide) (of_decide_eq_true (by kernel_rfl)) (by kernel_rfl) (by kernel_rfl))
def zx(s:bN):Value:=.agg #[C D s.t,C D s.s,C D s.q]
theorem Dv{a b:bN}:zx a=zx b↔a=b:=by rw[bN.eq_iff];simp[zx]
def r9(c g:Int):Value:=.agg #[C D c,C D g]
theorem Js{a b c d:Int}:r9 a b=r9 c d↔a=c/\b=d:=by simp[r9]
theorem wf_i64{x:Int}(h:aU x):(Lit.int .i64 x).wf=true:=by obtain⟨h1,h2⟩:=h;exact WalkArith.wf_i64 (by omega)
theorem EH{s:bN}(h:s.wf):∃kl,keyOf prog 35 (zx s)=some kl:=by
 obtain⟨m,hm⟩:∃m,prog.types.size=m+1:=⟨prog.types.size-1,by kernel_rfl⟩
 have u0:=underlying35;have u1:=underlying3;have hk:prog.keyType 35=true:=by kernel_rfl
 have c0:prog.cellsOf 35=3:=by kernel_rfl
 have c1:prog.cellsOf 3=1:=by kernel_rfl
 refine⟨.string (keyBytes [.int .i64 s.t,.int .i64 s.s,.int .i64 s.q]),?_⟩;unfold keyOf zx;simp only[u0];rw[if_pos (by simp[hk,Value.formed,u0,c0]),hm];unfold Program.keyLits;simp only[u0,Value.cells];rw[if_pos (by rw[c0];exact⟨rfl,by kernel_rfl⟩)];simp[c1,Program.keyLits,u1,wf_i64 h.1,wf_i64 h.2.1,wf_i64 h.2.2]
theorem sM{c g:Int}(h1:aU c)(h2:aU g):∃kl,keyOf prog 101 (r9 c g)=some kl:=by
 obtain⟨m,hm⟩:∃m,prog.types.size=m+1:=⟨prog.types.size-1,by kernel_rfl⟩
 have u0:=underlying101;have u1:=underlying3;have hk:prog.keyType 101=true:=by kernel_rfl
 have c0:prog.cellsOf 101=2:=by kernel_rfl
 have c1:prog.cellsOf 3=1:=by kernel_rfl
 refine⟨.string (keyBytes [.int .i64 c,.int .i64 g]),?_⟩;unfold keyOf r9;simp only[u0];rw[if_pos (by simp[hk,Value.formed,u0,c0]),hm];unfold Program.keyLits;simp only[u0,Value.cells];rw[if_pos (by rw[c0];exact⟨rfl,by kernel_rfl⟩)];simp[c1,Program.keyLits,u1,wf_i64 h1,wf_i64 h2]
end Go.Proofs.YtpaidaphacoblaaGreatDoor

