import Derived.Test.YtkaajgoeahahpaaGreatDoorK34
import Derived.DeepKeys4
import Derived.Test.YtkaajgoeahahpaaGreatDoorK32
import Derived.Test.YtkaajgoeahahpaaGreatDoorK33
set_option linter.all false
set_option maxRecDepth 100000
set_option maxHeartbeats 0
namespace Go.Proofs.YtkaajgoeahahpaaGreatDoor
open Go.Value renaming int→C,slice→E
open Go.IntKind renaming i64→D
open Go.RowKit _root_.Go.Proofs.Tryz
def pb(l:List aj)(y:aj)(j:Nat):Bool:=match l[j]? with
 |some z=>!(decide (z.cont=y.cont)&&decide (z.ch=y.ch))
 |none=>false
def FZ(b:Bool)(i j0:Nat):Int:=if b then 3 else if i=j0 then 1 else 2
theorem uc(v vg:Value)(l:List aj)(js:List Nat)(i j0:Nat)(y0:aj)(w:World){p q:Nat}(hv:au p w v l)(hg:ak q w vg (js.map fun j:Nat=>(j:Int)))(h0:js[0]?=some j0)(hy:l[j0]?=some y0)(hin:∀j∈js,j<l.length) :
  Calls prog 71 #[v,vg,C D (i:Int)] w fun e w'=>e=.returned (C D (FZ (js.any (pb l y0)) i j0))/\ab w w':=by
 obtain⟨A,n,c,rfl,hnc,hcc,hnn,HL⟩:=hv.open_;obtain⟨B,m,cb,rfl,hmb,hcb,hmm,HM⟩:=hg.open_;have HV:Bx (au p w (E A n c) l):=⟨hv⟩
 have HML:Hid (js.length=m):=by have:=HM.out;show js.length=m;simpa using this
 have hm0:0<m:=by have:=(zY.1 h0).1;have:=HML.out;omega
 have hj0:j0<n:=by have:=(zY.1 hy).1;have:=HL.out;omega
 have HIN:=zZ hin;obtain⟨bB,oB,x,rfl,g0,HX0,-,-⟩:=hg.at_ hm0;have HG:Bx (ak q w (E (some ⟨bB,oB,none⟩) m cb) (js.map fun j:Nat=>(j:Int))):=⟨hg⟩
 obtain rfl:x=(j0:Int):=by have:=HX0.out;rw[zP,h0]at this;simpa using this.symm
 obtain⟨bA,oA,_,_,rfl,-⟩:=HV.out.at_ hj0;obtain⟨t,s,q',kd,ct,ts,tq,lp,lc,lg,lv,str,ch,Au,mu,cu,HX,hcs,hI0,-⟩:=au.read HV.out (XT.refl p w) hj0;obtain rfl:y0=⟨⟨t,s,q'⟩,kd,str,ct,ch,⟨ts,tq⟩,⟨lp,lc,lg,lv⟩⟩:=by have:=HX.out;rw[hy]at this;injection this
 have HI0:Bx (ak p w (E Au mu cu) ch):=⟨hI0⟩
 obtain⟨c0,c1,c2,c3,c4,c5,c6,c7,c8,c9,c10,c11,c12⟩:=hcs;rw[yQ]at g0;have HG0:=zZ g0;have HD:Bx (∀j z,l[j]?=some z->pb l ⟨⟨t,s,q'⟩,kd,str,ct,ch,⟨ts,tq⟩,⟨lp,lc,lg,lv⟩⟩ j=!(decide (z.cont=ct)&&decide (z.ch=ch))):=⟨fun j z hz=>by unfold pb;rw[hz]⟩
 clear hv hg hin h0 hy hI0 HX HX0;obtain⟨w1,hw1⟩:=nm ((w.alloc (.cells #[C D t,C D s,C D q',C D kd,.string (ba str),C D ct,E Au mu cu,C D ts,C D tq,C D lp,C D lc,C D lg,C D lv] 47)):World);have HF:Bx (aA w w1 [(w.heap.size,#[C D t,C D s,C D q',C D kd,.string (ba str),C D ct,E Au mu cu,C D ts,C D tq,C D lp,C D lc,C D lg,C D lv],47)]):=⟨by rw[hw1];exact (aA.start w).push _ _ rfl⟩
 go_enter func71,ntmps71
 go_upto_region 2 with (fail)
 rw[<-hw1];clear hw1 c0 c1 c2 c3 c4 c5 c6 c7 c8 c9 c10 c11 c12 g0;go_wp2_with fail;go_loopw [18] (fun s18 wr=>∃k:Nat,s18=C D k/\k<=m/\Bx (aA w wr [(w.heap.size,#[C D t,C D s,C D q',C D kd,.string (ba str),C D ct,E Au mu cu,C D ts,C D tq,C D lp,C D lc,C D lg,C D lv],47)]/\∀(x:Nat) j,x<k->js[x]?=some j->pb l ⟨⟨t,s,q'⟩,kd,str,ct,ch,⟨ts,tq⟩,⟨lp,lc,lg,lv⟩⟩ j=false)) (fun k _=>m-(intOf k).toNat)
 case atStart=>exact⟨0,rfl,by omega,⟨⟨HF.out,fun x j hx=>by omega⟩⟩⟩
 case round =>
  obtain⟨k,rfl,hk,HR⟩:=hrel;have HFr:Bx (aA w wr [(w.heap.size,#[C D t,C D s,C D q',C D kd,.string (ba str),C D ct,E Au mu cu,C D ts,C D tq,C D lp,C D lc,C D lg,C D lv],47)]):=⟨HR.out.1⟩
  have HN:=zZ HR.out.2;clear HF HR;by_cases hkm:k<m
  ·obtain⟨x,gk,HXk,-,-⟩:=(HG.out.ext HFr.out.xt).cell_ hkm;obtain⟨j,HJ,hxj⟩:∃j:Nat,Hid (js[k]?=some j)/\x=(j:Int):=by
    have:=HXk.out;rw[zP,yO]at this;obtain⟨j,h1,h2⟩:=this;exact⟨j,h1,h2.symm⟩
   subst hxj;have hjn:j<n:=by have:=HIN.out j (zW HJ.out);have:=HL.out;omega
   obtain⟨t',s',q'',kd',ct',ts',tq',lp',lc',lg',lv',str',ch',Au',mu',cu',HX,hcs,hI',-⟩:=au.read HV.out HFr.out.xt.xt hjn;have HI':Bx (ak p wr (E Au' mu' cu') ch'):=⟨hI'⟩
   have x5:=hcs.c5;have x6:=hcs.c6;have y5:=(HFr.out.at_ 0 rfl).c 5 rfl;have y6:=(HFr.out.at_ 0 rfl).c 6 rfl;have HDJ:=zZ (HD.out j _ HX.out);clear hcs hI' HXk HX;simp only at HDJ;go_upto_region 5 with (fail)
   by_cases hct:ct'=ct
   ·have hcb1:(ct' != ct)=false:=by simp[hct]
    have HDK:=zZ (show pb l ⟨⟨t,s,q'⟩,kd,str,ct,ch,⟨ts,tq⟩,⟨lp,lc,lg,lv⟩⟩ j=!decide (ch'=ch) by rw[HDJ.out,decide_eq_true hct];rfl);replace hct:=zZ hct;refine zQ 99 fun wd kS=>?_;refine zS 16 [(0,22),(1,23),(2,24),(3,25),(4,26),(5,27),(6,28),(7,29),(8,30),(9,31),(10,32),(11,33),(12,34),(13,35),(14,36),(15,37)] kS ?_;iterate 16 refine zT ?_ (y:=by intro wk hk;obtain⟨_,_,_,_⟩:=zkc4 hk x5 x6 y5 y6;go_simp;try with_reducible rfl)
    refine zN (zO 16 (fun K hK=>?_));go_simp;refine (yo _ _ ch' ch _ (HI'.out.ext kS) (HI0.out.ext (HFr.out.xt.trans kS))).mono ?_;rintro e w3 ⟨rfl,hx3⟩;have kS2:ab wr w3:=kS.trans hx3;clear hx3;refine hK.out _ _ (fun _=>kS2) ?_;clear hK K;try simp only[kA]
    by_cases hch:ch'=ch
    ·have hd:decide (ch'=ch)=true:=decide_eq_true hch;have HE:=zZ (show pb l ⟨⟨t,s,q'⟩,kd,str,ct,ch,⟨ts,tq⟩,⟨lp,lc,lg,lv⟩⟩ j=false by rw[HDK.out,hd];rfl);replace hch:=zZ hch;rw[hd];clear hd;refine zS 2 [(17,39),(18,40)] kS2 ?_;iterate 2 refine zT ?_
     refine zN (zD ?_);go_wp2_with fail;go_roundw
     case rel=>exact⟨k+1,by go_num,by omega,⟨⟨HFr.out.ext kS2,fun x y hx hy=>by rcases zU x k with h|h;exact HN.out x y h hy;obtain rfl:x=k:=(by omega);rw[HJ.out]at hy;injection hy with hy;subst hy;exact HE.out⟩⟩⟩
     case measure=>simp[intOf];omega
    ·have hd:decide (ch'=ch)=false:=decide_eq_false hch;have HE:=zZ (show js.any (pb l ⟨⟨t,s,q'⟩,kd,str,ct,ch,⟨ts,tq⟩,⟨lp,lc,lg,lv⟩⟩)=true from wZ.2 ⟨j,zW HJ.out,by rw[HDK.out,hd];rfl⟩);replace hch:=zZ hch;rw[hd];clear hd;refine zS 2 [(17,39),(18,40)] kS2 ?_;iterate 2 refine zT ?_
     refine zN (zD ?_);go_wp2_with fail;go_ret
     exact⟨ag (by rw[HE.out];rfl),HFr.out.xt.trans kS2⟩
   ·have hcb1:(ct' != ct)=true:=by simp[hct]
    have HE:=zZ (show js.any (pb l ⟨⟨t,s,q'⟩,kd,str,ct,ch,⟨ts,tq⟩,⟨lp,lc,lg,lv⟩⟩)=true from wZ.2 ⟨j,zW HJ.out,by rw[HDJ.out,decide_eq_false hct];rfl⟩);replace hct:=zZ hct;refine zQ 99 fun wd kS=>?_;refine zS 19 [(0,22),(1,23),(2,24),(3,25),(4,26),(5,27),(6,28),(7,29),(8,30),(9,31),(10,32),(11,33),(12,34),(13,35),(14,36),(15,37),(16,38),(17,39),(18,40)] kS ?_;iterate 9 refine zT ?_ (y:=by intro wk hk;obtain⟨_,_,_,_⟩:=zkc4 hk x5 x6 y5 y6;go_simp;try with_reducible rfl)
    iterate 9 (apply zK;exact⟨rfl,rfl⟩;simp only[kA];exact rfl)
    refine zT ?_ (y:=by intro wk hk;obtain⟨_,_,_,_⟩:=zkc4 hk x5 x6 y5 y6;go_simp;try with_reducible rfl);refine zN (zD ?_);go_wp2_with fail;go_ret
    exact⟨ag (by rw[HE.out];rfl),HFr.out.xt.trans kS⟩
  ·obtain rfl:m=k:=by omega
   have HE:=zZ (show js.any (pb l ⟨⟨t,s,q'⟩,kd,str,ct,ch,⟨ts,tq⟩,⟨lp,lc,lg,lv⟩⟩)=false from wO.2 fun j hj=>by obtain⟨x,hx⟩:=zH hj;rw[HN.out x j (by have:=(zY.1 hx).1;have:=HML.out;omega) hx];simp)
   have gk:=HFr.out.xt.cell HG0.out;by_cases hi:i=j0
   ·subst hi;have hib:((i:Int)==(i:Int))=true:=by simp
    go_wp2_with fail;go_ret
    exact⟨ag (by rw[HE.out];unfold FZ;simp),HFr.out.xt⟩
   ·have hib:((i:Int)==(j0:Int))=false:=beq_eq_false_iff_ne.2 (by omega);have HI:=zZ hi;clear hi;go_wp2_with fail;go_ret
    exact⟨ag (by rw[HE.out];unfold FZ;rw[if_neg HI.out];rfl),HFr.out.xt⟩
open Go.Maps (Keyed)
theorem ti:Keyed prog 41:=Keyed.of_law (deep_law_laid (m:=3) (by kernel_rfl) (by decide) (of_decide_eq_true (by kernel_rfl)) (by kernel_rfl) (by kernel_rfl))
theorem pm:Keyed prog 113:=Keyed.of_law (deep_law_laid (m:=3) (by kernel_rfl) (by decide) (of_decide_eq_true (by kernel_rfl)) (by kernel_rfl) (by kernel_rfl))
def zx(s:bN):Value:=.agg #[C D s.t,C D s.s,C D s.q]
theorem Dv{a b:bN}:zx a=zx b↔a=b:=by rw[bN.eq_iff];simp[zx]
def r9(c g:Int):Value:=.agg #[C D c,C D g]
theorem Js{a b c d:Int}:r9 a b=r9 c d↔a=c/\b=d:=by simp[r9]
theorem wf_i64{x:Int}(h:aU x):(Lit.int .i64 x).wf=true:=by obtain⟨h1,h2⟩:=h;exact WalkArith.wf_i64 (by omega)
theorem EH{s:bN}(h:s.wf):∃kl,keyOf prog 41 (zx s)=some kl:=by
 obtain⟨m,hm⟩:∃m,prog.types.size=m+1:=⟨prog.types.size-1,by kernel_rfl⟩
 have u0:=underlying41;have u1:=underlying3;have hk:prog.keyType 41=true:=by kernel_rfl
 have c0:prog.cellsOf 41=3:=by kernel_rfl
 have c1:prog.cellsOf 3=1:=by kernel_rfl
 refine⟨.string (keyBytes [.int .i64 s.t,.int .i64 s.s,.int .i64 s.q]),?_⟩;unfold keyOf zx;simp only[u0];rw[if_pos (by simp[hk,Value.formed,u0,c0]),hm];unfold Program.keyLits;simp only[u0,Value.cells];rw[if_pos (by rw[c0];exact⟨rfl,by kernel_rfl⟩)];simp[c1,Program.keyLits,u1,wf_i64 h.1,wf_i64 h.2.1,wf_i64 h.2.2]
theorem sM{c g:Int}(h1:aU c)(h2:aU g):∃kl,keyOf prog 113 (r9 c g)=some kl:=by
 obtain⟨m,hm⟩:∃m,prog.types.size=m+1:=⟨prog.types.size-1,by kernel_rfl⟩
 have u0:=underlying113;have u1:=underlying3;have hk:prog.keyType 113=true:=by kernel_rfl
 have c0:prog.cellsOf 113=2:=by kernel_rfl
 have c1:prog.cellsOf 3=1:=by kernel_rfl
 refine⟨.string (keyBytes [.int .i64 c,.int .i64 g]),?_⟩;unfold keyOf r9;simp only[u0];rw[if_pos (by simp[hk,Value.formed,u0,c0]),hm];unfold Program.keyLits;simp only[u0,Value.cells];rw[if_pos (by rw[c0];exact⟨rfl,by kernel_rfl⟩)];simp[c1,Program.keyLits,u1,wf_i64 h1,wf_i64 h2]
end Go.Proofs.YtkaajgoeahahpaaGreatDoor

namespace Go.Proofs.YtkaajgoeahahpaaGreatDoor
open Go.Value renaming int→C,slice→E
open Go.IntKind renaming i64→D
open Go.RowKit _root_.Go.Proofs.Tryz
theorem Tryz.infoScs:(prog.info? 67).map (fun i=>(i.zero,i.size,i.bytes))=some (some (.agg #[C D 0,C D 0,C D 0,C D 0,C D 0,C D 0,C D 0]),7,56):=by kernel_rfl
theorem FC(n:Nat)(hn:n<=1000)(w:World):(Instr.makeSlice 56 (C D (n:Int)) (C D (n:Int))).run prog w=.ok (E (some ⟨w.heap.size,0,none⟩) n n) (w.alloc (.cells (madeCells #[C D 0,C D 0,C D 0,C D 0,C D 0,C D 0,C D 0] (n*7)) 67)):=by obtain⟨i,hi,h0,h1,h2⟩:=info_parts Tryz.infoScs;have h:=run_make (P:=prog) w 56 67 i _ underlying56 hi h0 .i64 .i64 n n (by omega) (Int.le_refl _) (by rw[h2];omega) (by omega);rw[yC,h1]at h;exact h
def lQ(x:dH):dF:=⟨x.cap.id,x.st,x.lab⟩
def Iv:dF:=⟨⟨0,0⟩,0,⟨0,0,0,0⟩⟩
theorem Ix:Iv.wf:=by
 have h:aU 0:=⟨by decide,by decide⟩
 exact⟨⟨h,h⟩,h,⟨h,h,h,h⟩⟩
structure kz (R:List dH) (W wr:World) (bs bm n i:Nat) (ss:List dF) (G:Value->List Nat):Prop where
 x:ab W wr
 st:ah bs 67 7 (cU W) wr (E (some ⟨bs,0,none⟩) n n) ss
 gr:fp prog 113 3 wr bm (bm+1) G
 sk:∀(j:Nat) x,j<i->R[j]?=some x->x.cap.kind=1->ss[j]?=some (lQ x)
 go:∀c g,G (r9 c g)=ed R i c g
 g1:W.heap.size<=bs
 g2:bs<bm
section
variable {R:List dH} {W wr w':World} {bs bm n i:Nat} {ss:List dF} {G:Value->List Nat} {x:dH}
theorem kz.ext(h:kz R W wr bs bm n i ss G)(e:ab wr w'):kz R W w' bs bm n i ss G:=⟨h.x.trans e,h.st.ext e,h.gr.ext e,h.sk,h.go,h.g1,h.g2⟩
theorem kz.lt(h:kz R W wr bs bm n i ss G):bm<wr.heap.size:=h.gr.lt
theorem GJ(hx:R[i]?=some x)(hf:x.fit=false)(h:∀c g,G (r9 c g)=ed R i c g):∀c g,G (r9 c g)=ed R (i+1) c g:=fun c g=>by rw[h,zp];rw[if_neg (by unfold IM;rw[hx];simp[hf])]
theorem kz.skip(h:kz R W wr bs bm n i ss G)(hx:R[i]?=some x)(hk:x.cap.kind≠1)(hf:x.fit=false):kz R W wr bs bm n (i+1) ss G :=
 ⟨h.x,h.st,h.gr,fun j y hj hy hk'=>by
  rcases zU j i with hl|hl
  ·exact h.sk j y hl hy hk'
  ·obtain rfl:j=i:=by omega
   rw[hx]at hy;injection hy with hy;subst hy;exact absurd hk' hk,GJ hx hf h.go,h.g1,h.g2⟩
theorem JJ(hx:R[i]?=some x)(hf:x.fit=true)(h:∀c g,G (r9 c g)=ed R i c g):∀c g,EV G (r9 x.lab.c x.lab.g) (G (r9 x.lab.c x.lab.g)++[i]) (r9 c g)=ed R (i+1) c g:=fun c g=>by
 rw[zp];by_cases e:c=x.lab.c/\g=x.lab.g
 ·obtain⟨rfl,rfl⟩:=e;rw[tn,if_pos (by unfold IM;rw[hx];simp[hf]),h]
 ·rw[wn (fun e'=>e (Js.1 e')),if_neg (by unfold IM;rw[hx];simp only[hf,yK,yT,decide_eq_true_eq];exact fun h=>e ⟨h.1.symm,h.2.symm⟩),h]
theorem He(hX:ab W wr)(hst:ah bs 67 7 (cU W) wr (E (some ⟨bs,0,none⟩) n n) ss)(hsk:∀(j:Nat) x,j<i->R[j]?=some x->x.cap.kind=1->ss[j]?=some (lQ x))(g1:W.heap.size<=bs)(g2:bs<bm)(hin:i<n)(hx:R[i]?=some x)(hgr:fp prog 113 3 wr bm (bm+1) G)(hgo:∀c g,G (r9 c g)=ed R (i+1) c g)(hw:(lQ x).wf) :
  kz R W (be wr bs (i*7) (lQ x).cells) bs bm n (i+1) (ss.set i (lQ x)) G:=by
 have hg:=ez bs (lQ x).cells wr (i*7);have hl:=hst.len;refine⟨hX.grown hg (fun kk e=>by injection e with e;omega),hst.putAll hin _ rfl ⟨rfl,hw⟩,hgr.kept hg (fun r e=>by injection e with e;omega),fun j y hj hy hk=>?_,hgo,g1,g2⟩;rw[yD];by_cases e:i=j
 ·subst e;rw[if_pos rfl,if_pos (by omega)];rw[hx]at hy;injection hy with hy;rw[hy]
 ·rw[if_neg e];exact hsk j y (by omega) hy hk
end
theorem nk{p:Nat}{w:World}{v:Value}{l:List aj}(h:au p w v l):∀c∈l,c.wf:=by obtain⟨A,c,hv,h1,h2,h4⟩:=h;intro x hx;obtain⟨k,hk⟩:=zH hx;obtain⟨b,off,cs,-,-,-,-,⟨u,-,-,hw⟩⟩:=h4 k x hk;exact hw
theorem DM{s:dl}{l:List aj}{c:aj}(hl:∀c∈l,c.wf)(hc:c.wf):(lQ (aM s l c)).wf:=by
 unfold aM;split
 ·obtain⟨lab,st,e⟩:∃lab st,aQ l c.id=(lab,st):=⟨_,_,rfl⟩
  rw[e];have hw:=jo hl e;have hs:=ku l c.id;rw[e]at hs;simp only at hs;refine⟨⟨hc.1.2.1,hc.1.2.2⟩,?_,hw⟩;simp only[lQ];split
  ·split
   ·exact⟨by decide,by decide⟩
   ·exact⟨by decide,by decide⟩
  ·exact⟨by omega,by omega⟩
 ·exact⟨⟨hc.1.2.1,hc.1.2.2⟩,⟨by simp only[lQ];decide,by simp only[lQ];decide⟩,kL⟩
theorem tX{w:World}{base e size n g:Nat}{v:Value}{xs:List Value}{cs:Array Value}{t:TypeId}(h:w.ownsRow base e size v n xs)(hb:Bk w g cs t)(ht:t≠e):v.ownBlock≠some g:=by
 rcases h.2 with ⟨rfl,_⟩|⟨g',cap,cur,rfl,_,hh,_⟩
 ·simp[Value.ownBlock]
 ·intro e';simp only[Value.ownBlock]at e';injection e' with e';subst e';unfold Bk at hb;rw[hh]at hb;injection hb with hb;injection hb with _ hb _;exact ht hb.symm
theorem G8(R:List dH)(k:Nat)(c g:Int):(ed R k c g).length<=k:=by unfold ed;exact yR (uP _ _) (by simp)
end Go.Proofs.YtkaajgoeahahpaaGreatDoor

namespace Go.Proofs.YtkaajgoeahahpaaGreatDoor
open Go.Value renaming int→C,slice→E
open Go.IntKind renaming i64→D
open Go.Shelf Go.Proofs
def jG:Go.Shelf.Ren:=⟨fun|6=>136|15=>118|14=>187|28=>167|29=>168|20=>205|21=>206|22=>207|23=>208|24=>209|25=>210|26=>211|27=>212|46=>219|47=>197|48=>198|49=>220|50=>221|57=>223|n=>n,fun|22=>22|24=>3|25=>50|3=>3|39=>163|0=>0|53=>203|55=>205|4=>4|46=>197|45=>196|50=>157|5=>5|9=>9|66=>223|70=>227|76=>238|77=>239|n=>n,fun|n=>n⟩
theorem BB:Go.Proofs.SlLaysF.n6 Tryz.prog jG:={
 mixed:=by kernel_rfl
 f6:=⟨Tryz.f136.name,by decide,Tryz.func136.trans (congrArg some (by kernel_rfl))⟩
 f14:=⟨Tryz.f187.name,by decide,Tryz.func187.trans (congrArg some (by kernel_rfl))⟩
 f15:=Tryz.func118.trans (congrArg some (by kernel_rfl))
 f20:=⟨Tryz.f205.name,by decide,Tryz.func205.trans (congrArg some (by kernel_rfl))⟩
 f21:=⟨Tryz.f206.name,by decide,Tryz.func206.trans (congrArg some (by kernel_rfl))⟩
 f22:=⟨Tryz.f207.name,by decide,Tryz.func207.trans (congrArg some (by kernel_rfl))⟩
 f23:=⟨Tryz.f208.name,by decide,Tryz.func208.trans (congrArg some (by kernel_rfl))⟩
 f24:=⟨Tryz.f209.name,by decide,Tryz.func209.trans (congrArg some (by kernel_rfl))⟩
 f25:=⟨Tryz.f210.name,by decide,Tryz.func210.trans (congrArg some (by kernel_rfl))⟩
 f26:=⟨Tryz.f211.name,by decide,Tryz.func211.trans (congrArg some (by kernel_rfl))⟩
 f27:=⟨Tryz.f212.name,by decide,Tryz.func212.trans (congrArg some (by kernel_rfl))⟩
 f28:=Tryz.func167.trans (congrArg some (by kernel_rfl))
 f29:=Tryz.func168.trans (congrArg some (by kernel_rfl))
 f46:=⟨Tryz.f219.name,by decide,Tryz.func219.trans (congrArg some (by kernel_rfl))⟩
 f47:=Tryz.func197.trans (congrArg some (by kernel_rfl))
 f48:=Tryz.func198.trans (congrArg some (by kernel_rfl))
 f49:=⟨Tryz.f220.name,by decide,Tryz.func220.trans (congrArg some (by kernel_rfl))⟩
 f50:=⟨Tryz.f221.name,by decide,Tryz.func221.trans (congrArg some (by kernel_rfl))⟩
 f57:=⟨Tryz.f223.name,by decide,Tryz.func223.trans (congrArg some (by kernel_rfl))⟩
 t0:=Tryz.underlying0
 a0:=Tryz.isAgg0
 z0:=Tryz.sizeOf0
 v0:=Tryz.zeroValue0
 t3:=Tryz.underlying3
 a3:=Tryz.isAgg3
 z3:=Tryz.sizeOf3
 v3:=Tryz.zeroValue3
 t4:=Tryz.underlying4
 a4:=Tryz.isAgg4
 z4:=Tryz.sizeOf4
 v4:=Tryz.zeroValue4
 t5:=Tryz.underlying5
 a5:=Tryz.isAgg5
 z5:=Tryz.sizeOf5
 v5:=Tryz.zeroValue5
 t9:=Tryz.underlying9
 a9:=Tryz.isAgg9
 z9:=Tryz.sizeOf9
 v9:=Tryz.zeroValue9
 t22:=Tryz.underlying22
 a22:=Tryz.isAgg22
 z22:=Tryz.sizeOf22
 v22:=Tryz.zeroValue22
 a24:=Tryz.isAgg3
 z24:=Tryz.sizeOf3
 t25:=Tryz.underlying50
 a25:=Tryz.isAgg50
 z25:=Tryz.sizeOf50
 v25:=Tryz.zeroValue50
 t39:=Tryz.underlying163
 a39:=Tryz.isAgg163
 z39:=Tryz.sizeOf163
 v39:=Tryz.zeroValue163
 t45:=Tryz.underlying196
 a45:=Tryz.isAgg196
 z45:=Tryz.sizeOf196
 v45:=Tryz.zeroValue196
 t46:=Tryz.underlying197
 a46:=Tryz.isAgg197
 z46:=Tryz.sizeOf197
 v46:=Tryz.zeroValue197
 t50:=Tryz.underlying157
 a50:=Tryz.isAgg157
 z50:=Tryz.sizeOf157
 v50:=Tryz.zeroValue157
 t53:=Tryz.underlying203
 a53:=Tryz.isAgg203
 z53:=Tryz.sizeOf203
 v53:=Tryz.zeroValue203
 t55:=Tryz.underlying205
 a55:=Tryz.isAgg205
 z55:=Tryz.sizeOf205
 v55:=Tryz.zeroValue205
 t66:=Tryz.underlying223
 a66:=Tryz.isAgg223
 z66:=Tryz.sizeOf223
 v66:=Tryz.zeroValue223
 t70:=Tryz.underlying227
 a70:=Tryz.isAgg227
 z70:=Tryz.sizeOf227
 v70:=Tryz.zeroValue227
 t76:=Tryz.underlying238
 a76:=Tryz.isAgg238
 z76:=Tryz.sizeOf238
 v76:=Tryz.zeroValue238
 t77:=Tryz.underlying239
 a77:=Tryz.isAgg239
 z77:=Tryz.sizeOf239
 v77:=Tryz.zeroValue239 }
def m6:Go.Shelf.Ren:=⟨fun|6=>72|15=>118|14=>117|28=>167|29=>168|20=>159|21=>160|22=>161|23=>162|24=>163|25=>164|26=>165|27=>166|46=>196|47=>197|48=>198|49=>199|50=>200|57=>217|n=>n,fun|22=>56|24=>67|25=>117|3=>3|39=>163|0=>0|53=>203|55=>205|4=>4|46=>197|45=>196|50=>157|5=>5|9=>9|66=>223|70=>227|76=>238|77=>239|n=>n,fun|n=>n⟩
theorem FR:Go.Proofs.SlLaysF0.n6 Tryz.prog m6:={
 mixed:=by kernel_rfl
 f6:=⟨Tryz.f72.name,by decide,Tryz.func72.trans (congrArg some (by kernel_rfl))⟩
 f14:=⟨Tryz.f117.name,by decide,Tryz.func117.trans (congrArg some (by kernel_rfl))⟩
 f15:=Tryz.func118.trans (congrArg some (by kernel_rfl))
 f20:=⟨Tryz.f159.name,by decide,Tryz.func159.trans (congrArg some (by kernel_rfl))⟩
 f21:=⟨Tryz.f160.name,by decide,Tryz.func160.trans (congrArg some (by kernel_rfl))⟩
 f22:=⟨Tryz.f161.name,by decide,Tryz.func161.trans (congrArg some (by kernel_rfl))⟩
 f23:=⟨Tryz.f162.name,by decide,Tryz.func162.trans (congrArg some (by kernel_rfl))⟩
 f24:=⟨Tryz.f163.name,by decide,Tryz.func163.trans (congrArg some (by kernel_rfl))⟩
 f25:=⟨Tryz.f164.name,by decide,Tryz.func164.trans (congrArg some (by kernel_rfl))⟩
 f26:=⟨Tryz.f165.name,by decide,Tryz.func165.trans (congrArg some (by kernel_rfl))⟩
 f27:=⟨Tryz.f166.name,by decide,Tryz.func166.trans (congrArg some (by kernel_rfl))⟩
 f28:=Tryz.func167.trans (congrArg some (by kernel_rfl))
 f29:=Tryz.func168.trans (congrArg some (by kernel_rfl))
 f46:=⟨Tryz.f196.name,by decide,Tryz.func196.trans (congrArg some (by kernel_rfl))⟩
 f47:=Tryz.func197.trans (congrArg some (by kernel_rfl))
 f48:=Tryz.func198.trans (congrArg some (by kernel_rfl))
 f49:=⟨Tryz.f199.name,by decide,Tryz.func199.trans (congrArg some (by kernel_rfl))⟩
 f50:=⟨Tryz.f200.name,by decide,Tryz.func200.trans (congrArg some (by kernel_rfl))⟩
 f57:=⟨Tryz.f217.name,by decide,Tryz.func217.trans (congrArg some (by kernel_rfl))⟩
 t0:=Tryz.underlying0
 a0:=Tryz.isAgg0
 z0:=Tryz.sizeOf0
 v0:=Tryz.zeroValue0
 t3:=Tryz.underlying3
 a3:=Tryz.isAgg3
 z3:=Tryz.sizeOf3
 v3:=Tryz.zeroValue3
 t4:=Tryz.underlying4
 a4:=Tryz.isAgg4
 z4:=Tryz.sizeOf4
 v4:=Tryz.zeroValue4
 t5:=Tryz.underlying5
 a5:=Tryz.isAgg5
 z5:=Tryz.sizeOf5
 v5:=Tryz.zeroValue5
 t9:=Tryz.underlying9
 a9:=Tryz.isAgg9
 z9:=Tryz.sizeOf9
 v9:=Tryz.zeroValue9
 t22:=Tryz.underlying56
 a22:=Tryz.isAgg56
 z22:=Tryz.sizeOf56
 v22:=Tryz.zeroValue56
 t25:=Tryz.underlying117
 a25:=Tryz.isAgg117
 z25:=Tryz.sizeOf117
 v25:=Tryz.zeroValue117
 t39:=Tryz.underlying163
 a39:=Tryz.isAgg163
 z39:=Tryz.sizeOf163
 v39:=Tryz.zeroValue163
 t45:=Tryz.underlying196
 a45:=Tryz.isAgg196
 z45:=Tryz.sizeOf196
 v45:=Tryz.zeroValue196
 t46:=Tryz.underlying197
 a46:=Tryz.isAgg197
 z46:=Tryz.sizeOf197
 v46:=Tryz.zeroValue197
 t50:=Tryz.underlying157
 a50:=Tryz.isAgg157
 z50:=Tryz.sizeOf157
 v50:=Tryz.zeroValue157
 t53:=Tryz.underlying203
 a53:=Tryz.isAgg203
 z53:=Tryz.sizeOf203
 v53:=Tryz.zeroValue203
 t55:=Tryz.underlying205
 a55:=Tryz.isAgg205
 z55:=Tryz.sizeOf205
 v55:=Tryz.zeroValue205
 t66:=Tryz.underlying223
 a66:=Tryz.isAgg223
 z66:=Tryz.sizeOf223
 v66:=Tryz.zeroValue223
 t70:=Tryz.underlying227
 a70:=Tryz.isAgg227
 z70:=Tryz.sizeOf227
 v70:=Tryz.zeroValue227
 t76:=Tryz.underlying238
 a76:=Tryz.isAgg238
 z76:=Tryz.sizeOf238
 v76:=Tryz.zeroValue238
 t77:=Tryz.underlying239
 a77:=Tryz.isAgg239
 z77:=Tryz.sizeOf239
 v77:=Tryz.zeroValue239 }
def mV:Go.Shelf.Ren:=⟨fun|6=>76|15=>118|14=>120|28=>167|29=>168|20=>169|21=>170|22=>171|23=>172|24=>173|25=>174|26=>175|27=>176|46=>201|47=>197|48=>198|49=>202|50=>203|57=>218|n=>n,fun|22=>57|24=>72|25=>119|3=>3|39=>163|0=>0|53=>203|55=>205|4=>4|46=>197|45=>196|50=>157|5=>5|9=>9|66=>223|70=>227|76=>238|77=>239|n=>n,fun|n=>n⟩
theorem Hb:Go.Proofs.SlLaysF0.n6 Tryz.prog mV:={
 mixed:=by kernel_rfl
 f6:=⟨Tryz.f76.name,by decide,Tryz.func76.trans (congrArg some (by kernel_rfl))⟩
 f14:=⟨Tryz.f120.name,by decide,Tryz.func120.trans (congrArg some (by kernel_rfl))⟩
 f15:=Tryz.func118.trans (congrArg some (by kernel_rfl))
 f20:=⟨Tryz.f169.name,by decide,Tryz.func169.trans (congrArg some (by kernel_rfl))⟩
 f21:=⟨Tryz.f170.name,by decide,Tryz.func170.trans (congrArg some (by kernel_rfl))⟩
 f22:=⟨Tryz.f171.name,by decide,Tryz.func171.trans (congrArg some (by kernel_rfl))⟩
 f23:=⟨Tryz.f172.name,by decide,Tryz.func172.trans (congrArg some (by kernel_rfl))⟩
 f24:=⟨Tryz.f173.name,by decide,Tryz.func173.trans (congrArg some (by kernel_rfl))⟩
 f25:=⟨Tryz.f174.name,by decide,Tryz.func174.trans (congrArg some (by kernel_rfl))⟩
 f26:=⟨Tryz.f175.name,by decide,Tryz.func175.trans (congrArg some (by kernel_rfl))⟩
 f27:=⟨Tryz.f176.name,by decide,Tryz.func176.trans (congrArg some (by kernel_rfl))⟩
 f28:=Tryz.func167.trans (congrArg some (by kernel_rfl))
 f29:=Tryz.func168.trans (congrArg some (by kernel_rfl))
 f46:=⟨Tryz.f201.name,by decide,Tryz.func201.trans (congrArg some (by kernel_rfl))⟩
 f47:=Tryz.func197.trans (congrArg some (by kernel_rfl))
 f48:=Tryz.func198.trans (congrArg some (by kernel_rfl))
 f49:=⟨Tryz.f202.name,by decide,Tryz.func202.trans (congrArg some (by kernel_rfl))⟩
 f50:=⟨Tryz.f203.name,by decide,Tryz.func203.trans (congrArg some (by kernel_rfl))⟩
 f57:=⟨Tryz.f218.name,by decide,Tryz.func218.trans (congrArg some (by kernel_rfl))⟩
 t0:=Tryz.underlying0
 a0:=Tryz.isAgg0
 z0:=Tryz.sizeOf0
 v0:=Tryz.zeroValue0
 t3:=Tryz.underlying3
 a3:=Tryz.isAgg3
 z3:=Tryz.sizeOf3
 v3:=Tryz.zeroValue3
 t4:=Tryz.underlying4
 a4:=Tryz.isAgg4
 z4:=Tryz.sizeOf4
 v4:=Tryz.zeroValue4
 t5:=Tryz.underlying5
 a5:=Tryz.isAgg5
 z5:=Tryz.sizeOf5
 v5:=Tryz.zeroValue5
 t9:=Tryz.underlying9
 a9:=Tryz.isAgg9
 z9:=Tryz.sizeOf9
 v9:=Tryz.zeroValue9
 t22:=Tryz.underlying57
 a22:=Tryz.isAgg57
 z22:=Tryz.sizeOf57
 v22:=Tryz.zeroValue57
 t25:=Tryz.underlying119
 a25:=Tryz.isAgg119
 z25:=Tryz.sizeOf119
 v25:=Tryz.zeroValue119
 t39:=Tryz.underlying163
 a39:=Tryz.isAgg163
 z39:=Tryz.sizeOf163
 v39:=Tryz.zeroValue163
 t45:=Tryz.underlying196
 a45:=Tryz.isAgg196
 z45:=Tryz.sizeOf196
 v45:=Tryz.zeroValue196
 t46:=Tryz.underlying197
 a46:=Tryz.isAgg197
 z46:=Tryz.sizeOf197
 v46:=Tryz.zeroValue197
 t50:=Tryz.underlying157
 a50:=Tryz.isAgg157
 z50:=Tryz.sizeOf157
 v50:=Tryz.zeroValue157
 t53:=Tryz.underlying203
 a53:=Tryz.isAgg203
 z53:=Tryz.sizeOf203
 v53:=Tryz.zeroValue203
 t55:=Tryz.underlying205
 a55:=Tryz.isAgg205
 z55:=Tryz.sizeOf205
 v55:=Tryz.zeroValue205
 t66:=Tryz.underlying223
 a66:=Tryz.isAgg223
 z66:=Tryz.sizeOf223
 v66:=Tryz.zeroValue223
 t70:=Tryz.underlying227
 a70:=Tryz.isAgg227
 z70:=Tryz.sizeOf227
 v70:=Tryz.zeroValue227
 t76:=Tryz.underlying238
 a76:=Tryz.isAgg238
 z76:=Tryz.sizeOf238
 v76:=Tryz.zeroValue238
 t77:=Tryz.underlying239
 a77:=Tryz.isAgg239
 z77:=Tryz.sizeOf239
 v77:=Tryz.zeroValue239 }
end Go.Proofs.YtkaajgoeahahpaaGreatDoor

