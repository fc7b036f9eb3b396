import Derived.Test.YtkaajgoeahahpaaGreatDoorK23
set_option linter.all false
set_option maxRecDepth 100000
set_option maxHeartbeats 0
namespace Go.Proofs.YtkaajgoeahahpaaGreatDoor
open Go.Value renaming int→B,slice→D
open Go.IntKind renaming i64→C
open Go.RowKit _root_.Go.Proofs.Tryz
theorem J9{w:World}{base e size n:Nat}{v:Value}{xs:List Value}(h:w.ownsRow base e size v n xs):∃A c,v=D A n c:=by
 rcases h.2 with ⟨e,h0⟩|⟨g,cap,cur,e,_⟩
 ·exact⟨none,0,by rw[e,h0]⟩
 ·exact⟨_,_,e⟩
theorem Cf(v vc:Value)(l:List bN)(cls:List Int)(w:World){p q:Nat}(hv:oI p w v l)(hc:ak q w vc cls)(hl:cls.length=l.length)(hn:l.length<=300) :
  Calls prog 60 #[v,vc] w fun e w'=>∃(vo:Value) (out:List Int),e=.returned (.tuple #[vo,B C 0])/\w'.ownsRow w.heap.size 3 1 vo out.length (out.map (Value.int .i64))/\eQ l cls l.length out/\ab w w':=by
 obtain⟨A,n,c,rfl,hnc,hcc,hnn,HL⟩:=hv.open_;obtain⟨A2,n2,c2,rfl,hnc2,hcc2,hnn2,HL2⟩:=hc.open_;obtain⟨i0,hi0,hz0,hz1,hz2⟩:=info_parts Tryz.infoI;have hn3:n<=300:=by have:=HL.out;omega
 have hn12:n=n2:=by have:=HL.out;have:=HL2.out;omega
 subst hn12;have HV:Bx (oI p w (D A n c) l/\ak q w (D A2 n c2) cls/\cls.length=l.length):=⟨⟨hv,hc,hl⟩⟩
 clear hv hc hl hn;go_enter func60,ntmps60
 go_wp2_with fail;go_loopw [6,7] (fun s6 s7 wr=>∃(i no:Nat) (out:List Int),s7=B C i/\i<=n/\out.length<=no/\no<=out.length/\no<=i/\Bx (wr.ownsRow w.heap.size 3 1 s6 out.length (out.map (Value.int .i64))/\eQ l cls i out/\ab w wr)) (fun _ i _=>n-(intOf i).toNat)
 case atStart=>exact⟨0,0,[],rfl,by omega,by simp,by simp,by omega,⟨⟨yZ _ _ _ _,eQ.nil _ _,zE _⟩⟩⟩
 case round =>
  obtain⟨i,no,out,rfl,hi,ho1,ho2,hoi,HR⟩:=hrel;by_cases hin:i<n
  ·obtain⟨b,off,_,_,rfl,-⟩:=HV.out.1.at_ hin;obtain⟨t,s,q',HT,a0,a1,a2,-⟩:=oI.cells HV.out.1 hin;go_wp2_with fail;refine (Ba _ _ l cls i _ (HV.out.1.ext (oT.stab p) HR.out.2.2) (HV.out.2.1.ext HR.out.2.2) HV.out.2.2 (by have:=HL.out;omega)).mono ?_;rintro e w1 ⟨rfl,hx1⟩;cases hb:iR l cls i with
   |false =>
    replace hb:=zZ hb;go_wp2_with fail;go_roundw
    case rel=>exact⟨i+1,no,out,by go_num,by omega,by omega,by omega,by omega,⟨⟨ao HR.out.1 hx1,HR.out.2.1.skip hb.out,HR.out.2.2.trans hx1⟩⟩⟩
    case measure=>simp[intOf];omega
   |true =>
    replace hb:=zZ hb;have hbw:b<w.heap.size:=bK a0;have hown1:=ao HR.out.1 hx1;have hI:ak b w1 u6 out:=ak.of_own hown1 hbw (fun x hx=>by obtain⟨j,rfl,hj,-⟩:=HR.out.2.1.mem.1 hx;exact⟨by omega,by omega⟩) (by omega);obtain⟨Ao,n',co,rfl,hnc',hc',hnn',HLo⟩:=hI.open_;obtain rfl:n'=no:=by have:=HLo.out;omega
    have HI:Bx (ak b w1 (D Ao n' co) out):=⟨hI⟩
    have HO:Bx (w1.ownsRow w.heap.size 3 1 (D Ao n' co) out.length (out.map (Value.int .i64))):=⟨hown1⟩
    have HS:Bx (eQ l cls i out):=⟨HR.out.2.1⟩
    have HE:Bx (ab w w1):=⟨HR.out.2.2.trans hx1⟩
    clear HR hx1 hown1 hI;go_wp2_with fail;go_loopw [8] (fun s8 wr=>∃r:Nat,s8=B C r/\r<=n'/\Bx (ab w1 wr/\∀x,out[r]?=some x->tz l (i:Int) x=true)) (fun r _=>(intOf r).toNat)
    case atStart=>exact⟨n',rfl,by omega,⟨⟨zE _,fun x hx=>by have:=(zY.1 hx).1;omega⟩⟩⟩
    case round =>
     obtain⟨r,rfl,hr,HX⟩:=hrel;have HE2:Bx (ab w wr):=⟨HE.out.trans HX.out.1⟩
     by_cases hr0:0<r
     ·obtain⟨r',hr'⟩:∃r',r'+1=r:=⟨r-1,by omega⟩
      have hrr:r'<n':=by omega
      have hrr2:r=r'+1:=hr'.symm;have HRR:=zZ hrr2;have hr1:r'+1<=r:=by omega
      have hr2:r<=r'+1:=by omega
      clear hr' hrr2;obtain⟨g,og,x,rfl,hgx,hxo,-⟩:=(HI.out.ext HX.out.1).at_ hrr;obtain⟨j,hj,hji,hjc⟩:=HS.out.mem.1 (zW hxo.out);subst hj;have hog:og=0:=by obtain⟨g9,c9,e9,_⟩:=di HO.out (by omega);injection e9 with e9 _ _;injection e9 with e9;injection e9
      subst hog;rw[yV]at hgx;have hjn:j<n:=by omega
      obtain⟨t',s',q'',HT',e0,e1,e2,-⟩:=oI.cells (HV.out.1.ext (oT.stab p) HE2.out) hjn;have HLT:Bx (tz l (i:Int) (j:Int)=decide (0<me ⟨t',s',q''⟩ ⟨t,s,q'⟩)):=⟨by rw[pi HT.out HT'.out,GU]⟩
      obtain⟨cv,hcv⟩:=nm (me ⟨t',s',q''⟩ ⟨t,s,q'⟩);rw[<-hcv]at HLT;have HCV:=zZ hcv;clear hcv;have kS:wr.drew.cell? ⟨g,r',none⟩=some (B C (j:Int))/\wr.drew.cell? ⟨b,off+j*3,none⟩=some (B C t')/\wr.drew.cell? ⟨b,off+j*3+1,none⟩=some (B C s')/\wr.drew.cell? ⟨b,off+j*3+2,none⟩=some (B C q'')/\wr.drew.cell? ⟨b,off+i*3,none⟩=some (B C t)/\wr.drew.cell? ⟨b,off+i*3+1,none⟩=some (B C s)/\wr.drew.cell? ⟨b,off+i*3+2,none⟩=some (B C q'):=⟨hgx,e0,e1,e2,HE2.out.cell a0,HE2.out.cell a1,HE2.out.cell a2⟩
      clear hgx e0 e1 e2;have m1:IntKind.i64.wrap ((r:Int)-1)=(r':Int):=by rw[yN _ (by omega)];omega
      have m2:0<=(r':Int):=by omega
      have hrg:decide ((r:Int)>0)=true:=by simp;omega
      go_upto_region 9 with (fail)
      refine zR 99 (fun w'=>w'.cell? ⟨g,r',none⟩=some (B C (j:Int))/\w'.cell? ⟨b,off+j*3,none⟩=some (B C t')/\w'.cell? ⟨b,off+j*3+1,none⟩=some (B C s')/\w'.cell? ⟨b,off+j*3+2,none⟩=some (B C q'')/\w'.cell? ⟨b,off+i*3,none⟩=some (B C t)/\w'.cell? ⟨b,off+i*3+1,none⟩=some (B C s)/\w'.cell? ⟨b,off+i*3+2,none⟩=some (B C q')) ?_;refine zS 15 [(0,28),(1,29),(2,30),(3,31),(4,32),(5,33),(6,34),(7,35),(8,36),(9,37),(10,38),(11,39),(12,40),(13,41),(14,42)] kS ?_;iterate 15 refine zT ?_
      refine zN (zO 15 (fun K hK=>?_));go_simp;refine (vu t' s' q'' t s q' _).mono ?_;rintro e w3 ⟨rfl,hx3⟩;rw[<-HCV.out];have kS3:w3.cell? ⟨g,r',none⟩=some (B C (j:Int))/\w3.cell? ⟨b,off+j*3,none⟩=some (B C t')/\w3.cell? ⟨b,off+j*3+1,none⟩=some (B C s')/\w3.cell? ⟨b,off+j*3+2,none⟩=some (B C q'')/\w3.cell? ⟨b,off+i*3,none⟩=some (B C t)/\w3.cell? ⟨b,off+i*3+1,none⟩=some (B C s)/\w3.cell? ⟨b,off+i*3+2,none⟩=some (B C q'):=⟨hx3.cell kS.1,hx3.cell kS.2.1,hx3.cell kS.2.2.1,hx3.cell kS.2.2.2.1,hx3.cell kS.2.2.2.2.1,hx3.cell kS.2.2.2.2.2.1,hx3.cell kS.2.2.2.2.2.2⟩
      have HX3:Bx (ab w1 w3):=⟨HX.out.1.drew.trans hx3⟩
      clear hx3;refine hK.out _ _ (fun _=>(kS3)) ?_;clear hK K;try simp only[kA]
      refine zS 2 [(16,44),(17,45)] kS3 ?_;iterate 2 refine zT ?_
      refine zN (zD ?_);clear kS kS3 m1;by_cases hc0:0<cv
      ·have HH:Bx (tz l (i:Int) (j:Int)=true):=⟨by rw[HLT.out];exact decide_eq_true hc0⟩
       go_wp2_with fail;go_roundw
       case rel =>refine⟨r',by congr;omega,by omega,⟨⟨HX3.out,fun x hx=>?_⟩⟩⟩;rw[hxo.out]at hx;injection hx with hx;subst hx;exact HH.out
       case measure=>simp[intOf];omega
      ·have HXe:=HX3;have HH:Bx ((∀x,out[r]?=some x->tz l (i:Int) x=true)/\∀x,r≠0->out[r-1]?=some x->tz l (i:Int) x=false):=by
        refine⟨⟨HX.out.2,fun x _ hx=>?_⟩⟩;rw[show r-1=r' by omega,hxo.out]at hx;injection hx with hx;subst hx;rw[HLT.out];exact decide_eq_false hc0
       clear HX HE2 HX3;obtain⟨Az,hAz⟩:=nm (some ⟨g,0,none⟩:Option Addr);rw[<-hAz]at HI HO;rw[<-hAz];clear hAz;have HIr:=zZ ((HI.out.ext HXe.out).take hr);have HDr:=zZ ((HI.out.ext HXe.out).drop hr);have hso:=HO.out;go_wp2_with (first
        |(at_builtin;refine dh _ rfl (.tmp 48) (.tmp 51) 22 rfl w3.heap.size 3 i0 _ 8 underlying22 hi0 hz0 hz1 hz2 rfl (D none 0 0) 0 [] rfl (yZ _ _ _ _) b Az r co (out.take r) rfl HIr.out (by omega) (by omega) (zX _) ?_;intro v4 w4 hown4 hg4;have HE4:=zZ (ab.grown (zE w3) hg4 (by simp[Value.ownBlock]));have HO4:=zZ hown4;clear hown4 hg4)
        |(at_builtin;refine aF _ rfl (.tmp 53) (.tmp 55) 22 rfl w3.heap.size 3 i0 _ 8 underlying22 hi0 hz0 hz1 hz2 rfl v4 _ _ rfl (HO4.out.alloc _) _ _ rfl (by simp;rfl) rfl (by omega) (by omega) (by have:=HE4.out.size;simp;omega) ?_;intro v5 w5 hown5 hg5;have HE5:=zZ (ab.grown (HE4.out.alloc _) hg5 (aq HO4.out));have HO5:=zZ hown5;clear hown5 hg5)
        |(at_builtin;refine dh _ rfl (.tmp 57) (.tmp 60) 22 rfl w3.heap.size 3 i0 _ 8 underlying22 hi0 hz0 hz1 hz2 rfl v5 _ _ rfl HO5.out b _ (n'-r) (co-r) (out.drop r) rfl (HDr.out.ext HE5.out) (by omega) (by omega) (HE5.out.size) ?_;intro v6 w6 hown6 hg6;have HE6:=zZ (ab.grown HE5.out hg6 (aq HO5.out));have HO6:=zZ hown6;clear hown6 hg6))
       go_roundw
       case rel =>
        refine⟨i+1,n'+1,out.take r++[(i:Int)]++out.drop r,by go_num,by omega,by simp;omega,by simp;omega,by omega,⟨⟨?_,HS.out.put HV.out.2.2 (by have:=HL.out;omega) hb.out (by have:=HI.out.len;omega) HH.out.1 HH.out.2,(HE.out.trans HXe.out).trans HE6.out⟩⟩⟩;have h5:=cd HO6.out (base':=w.heap.size) (by have:=HE.out.size;have:=HXe.out.size;omega);have e:0+r+1+(n'-r)=(out.take r++[(i:Int)]++out.drop r).length:=by simp;omega
        rw[e]at h5;simpa using h5
       case measure=>simp[intOf];omega
     ·have HH:Bx ((∀x,out[r]?=some x->tz l (i:Int) x=true)/\∀x,r≠0->out[r-1]?=some x->tz l (i:Int) x=false):=⟨⟨HX.out.2,fun x h=>absurd (by omega) h⟩⟩
      have hxd:ab w1 wr.drew:=HX.out.1.drew;have kS:True:=trivial;go_upto_region 9 with (fail)
      refine zR 99 (fun _=>True) ?_;refine zS 3 [(0,28),(1,29),(2,30)] kS ?_;iterate 3 refine zT ?_
      refine zN (zS 14 [(3,31),(4,32),(5,33),(6,34),(7,35),(8,36),(9,37),(10,38),(11,39),(12,40),(13,41),(14,42),(15,43),(16,44)] kS ?_);iterate 14 (apply zK;exact⟨rfl,rfl⟩;simp only[kA];exact rfl)
      refine zN (zS 1 [(17,45)] kS ?_);refine zT ?_;refine zN (zD ?_);obtain⟨w3,hw3⟩:=nm (wr.drew:World);rw[<-hw3]at hxd;have HXe:Bx (ab w1 w3):=⟨hxd⟩
      rw[<-hw3];clear hw3 hxd HX HE2 kS;have HIr:=zZ ((HI.out.ext HXe.out).take hr);have HDr:=zZ ((HI.out.ext HXe.out).drop hr);have hso:=HO.out;go_wp2_with (first
       |(at_builtin;refine dh _ rfl (.tmp 48) (.tmp 51) 22 rfl w3.heap.size 3 i0 _ 8 underlying22 hi0 hz0 hz1 hz2 rfl (D none 0 0) 0 [] rfl (yZ _ _ _ _) b Ao r co (out.take r) rfl HIr.out (by omega) (by omega) (zX _) ?_;intro v4 w4 hown4 hg4;have HE4:=zZ (ab.grown (zE w3) hg4 (by simp[Value.ownBlock]));have HO4:=zZ hown4;clear hown4 hg4)
       |(at_builtin;refine aF _ rfl (.tmp 53) (.tmp 55) 22 rfl w3.heap.size 3 i0 _ 8 underlying22 hi0 hz0 hz1 hz2 rfl v4 _ _ rfl (HO4.out.alloc _) _ _ rfl (by simp;rfl) rfl (by omega) (by omega) (by have:=HE4.out.size;simp;omega) ?_;intro v5 w5 hown5 hg5;have HE5:=zZ (ab.grown (HE4.out.alloc _) hg5 (aq HO4.out));have HO5:=zZ hown5;clear hown5 hg5)
       |(at_builtin;refine dh _ rfl (.tmp 57) (.tmp 60) 22 rfl w3.heap.size 3 i0 _ 8 underlying22 hi0 hz0 hz1 hz2 rfl v5 _ _ rfl HO5.out b _ (n'-r) (co-r) (out.drop r) rfl (HDr.out.ext HE5.out) (by omega) (by omega) (HE5.out.size) ?_;intro v6 w6 hown6 hg6;have HE6:=zZ (ab.grown HE5.out hg6 (aq HO5.out));have HO6:=zZ hown6;clear hown6 hg6))
      go_roundw
      case rel =>
       refine⟨i+1,n'+1,out.take r++[(i:Int)]++out.drop r,by go_num,by omega,by simp;omega,by simp;omega,by omega,⟨⟨?_,HS.out.put HV.out.2.2 (by have:=HL.out;omega) hb.out (by have:=HI.out.len;omega) HH.out.1 HH.out.2,(HE.out.trans HXe.out).trans HE6.out⟩⟩⟩;have h5:=cd HO6.out (base':=w.heap.size) (by have:=HE.out.size;have:=HXe.out.size;omega);have e:0+r+1+(n'-r)=(out.take r++[(i:Int)]++out.drop r).length:=by simp;omega
       rw[e]at h5;simpa using h5
      case measure=>simp[intOf];omega
  ·obtain rfl:i=n:=by omega
   obtain⟨Ao,co,hu⟩:=J9 HR.out.1;have hno:out.length=no:=by omega
   rw[hno]at hu;subst hu;clear hno;go_wp2_with fail;go_ret2
   exact⟨_,out,rfl,HR.out.1,by rw[HL.out];exact HR.out.2.1,HR.out.2.2⟩
theorem DU(l:List UInt8):(ba l).toList=l:=by rw[ByteArray.toList_eq];simp[ba]
theorem J4{xt xs xq xk xct xts xtq xlp xlc xlg xlv yt ys yq yk yct yts ytq ylp ylc ylg ylv:Int}{xstr ystr:List UInt8}{xch ych:List Int}:((⟨⟨xt,xs,xq⟩,xk,xstr,xct,xch,⟨xts,xtq⟩,⟨xlp,xlc,xlg,xlv⟩⟩:aj)=⟨⟨yt,ys,yq⟩,yk,ystr,yct,ych,⟨yts,ytq⟩,⟨ylp,ylc,ylg,ylv⟩⟩) ↔
  (xt=yt/\xs=ys/\xq=yq)/\xk=yk/\(ba xstr).toList=(ba ystr).toList/\xct=yct/\xch=ych/\(xts=yts/\xtq=ytq)/\(xlp=ylp/\xlc=ylc/\xlg=ylg/\xlv=ylv):=by
 rw[aj.eq_iff,bN.eq_iff,gT.eq_iff,cJ.eq_iff,DU,DU]
theorem oY(xt xs xq xk xct xts xtq xlp xlc xlg xlv yt ys yq yk yct yts ytq ylp ylc ylg ylv:Int)(xstr ystr:List UInt8)(xch ych:List Int)(xA yA:Option Addr)(xn xcc yn ycc:Nat)(w:World){p q:Nat}(ha:ak p w (D xA xn xcc) xch)(hb:ak q w (D yA yn ycc) ych) :
  Calls prog 24 #[.agg #[B C xt,B C xs,B C xq,B C xk,.string (ba xstr),B C xct,D xA xn xcc,B C xts,B C xtq,B C xlp,B C xlc,B C xlg,B C xlv],.agg #[B C yt,B C ys,B C yq,B C yk,.string (ba ystr),B C yct,D yA yn ycc,B C yts,B C ytq,B C ylp,B C ylc,B C ylg,B C ylv]] w fun e w'=>e=.returned (.bool (decide ((⟨⟨xt,xs,xq⟩,xk,xstr,xct,xch,⟨xts,xtq⟩,⟨xlp,xlc,xlg,xlv⟩⟩:aj)=⟨⟨yt,ys,yq⟩,yk,ystr,yct,ych,⟨yts,ytq⟩,⟨ylp,ylc,ylg,ylv⟩⟩)))/\ab w w':=by
 have e1:=fun W=>vx xt xs xq yt ys yq W;have e2:=fun W=>jW xts xtq yts ytq W;have e3:=fun W=>ox xlp xlc xlg xlv ylp ylc ylg ylv W;have g1:=nt;have g2:=fC;have g3:=ij;have HA:Bx (ak p w (D xA xn xcc) xch/\ak q w (D yA yn ycc) ych):=⟨⟨ha,hb⟩⟩
 clear ha hb;go_enter func24,ntmps24
 go_wp2_with (go_at_call 40;refine (rP _ _ xch ych _ (HA.out.1.ext (((zE _).alloc _).alloc _)) (HA.out.2.ext (((zE _).alloc _).alloc _))).mono ?_;rintro e w1 ⟨rfl,hx1⟩;have HE:=zZ ((((zE w).alloc _).alloc _).trans hx1);have q07:w1.cell? ⟨w.heap.size,7,none⟩=some (B C xts):=hx1.cell (by simp[go_sem,yI,yH]);have q08:w1.cell? ⟨w.heap.size,8,none⟩=some (B C xtq):=hx1.cell (by simp[go_sem,yI,yH]);have q09:w1.cell? ⟨w.heap.size,9,none⟩=some (B C xlp):=hx1.cell (by simp[go_sem,yI,yH]);have q010:w1.cell? ⟨w.heap.size,10,none⟩=some (B C xlc):=hx1.cell (by simp[go_sem,yI,yH]);have q011:w1.cell? ⟨w.heap.size,11,none⟩=some (B C xlg):=hx1.cell (by simp[go_sem,yI,yH]);have q012:w1.cell? ⟨w.heap.size,12,none⟩=some (B C xlv):=hx1.cell (by simp[go_sem,yI,yH]);have q17:w1.cell? ⟨w.heap.size+1,7,none⟩=some (B C yts):=hx1.cell (by simp[go_sem,yI,yH]);have q18:w1.cell? ⟨w.heap.size+1,8,none⟩=some (B C ytq):=hx1.cell (by simp[go_sem,yI,yH]);have q19:w1.cell? ⟨w.heap.size+1,9,none⟩=some (B C ylp):=hx1.cell (by simp[go_sem,yI,yH]);have q110:w1.cell? ⟨w.heap.size+1,10,none⟩=some (B C ylc):=hx1.cell (by simp[go_sem,yI,yH]);have q111:w1.cell? ⟨w.heap.size+1,11,none⟩=some (B C ylg):=hx1.cell (by simp[go_sem,yI,yH]);have q112:w1.cell? ⟨w.heap.size+1,12,none⟩=some (B C ylv):=hx1.cell (by simp[go_sem,yI,yH]);clear hx1);all_goals (go_ret;refine⟨aa ?_,?_⟩)
 all_goals (first|exact HE.out|exact ((zE _).alloc _).alloc _|(rw[yE];simp only[decide_eq_true_eq,J4];simp_all)|skip)
 all_goals trace_state
end Go.Proofs.YtkaajgoeahahpaaGreatDoor

