import Derived.Lib.SliceRun
import Derived.Test.YtkaajgoeahahpaaGreatDoorK6
import Derived.Deep.AppendLies
import Derived.Laws.CopyRow
set_option linter.all false
set_option maxRecDepth 100000
set_option maxHeartbeats 0
namespace Go.Proofs.YtkaajgoeahahpaaGreatDoor
open Go.Value renaming int→B,slice→D
open Go.IntKind renaming i64→C
theorem Tryz.infoS:(Tryz.prog.info? 22).map (fun i=>(i.zero,i.size,i.bytes))=some (some (D none 0 0),1,24):=by kernel_rfl
end Go.Proofs.YtkaajgoeahahpaaGreatDoor

namespace Go.Proofs.YtkaajgoeahahpaaGreatDoor
open Go.Value renaming int→B,slice→D
open Go.IntKind renaming i64→C
open Go.RowKit _root_.Go.Proofs.Tryz
variable {base c g k n p:Nat} {w:World} {v:Value}
theorem jF(v:Value)(l:List Int)(w:World)(h:ak p w v l)(hl:l.length<=1000) :
  Calls prog 59 #[v] w fun e w'=>∃v',e=.returned v'/\w'.ownsRow w.heap.size 3 1 v' l.length (l.map (Value.int .i64))/\ab w w':=by
 obtain⟨A,n,c,rfl,hnc,hc,hnn,HL⟩:=h.open_;have hn:n<=1000:=by have:=HL.out;omega
 have H:=zZ h;clear h hl;obtain⟨i0,hi0,hz0,hz1,hz2⟩:=info_parts Tryz.infoI;have q28:∀(w:World) (a:Option Addr) (n c n' c':Nat),(binOp .eql 22 (D a n c) (D none n' c')).run prog w=.ok (.bool a.isNone) w:=fun w a n c n' c'=>Lib.run_eql_slice_nil w _ _ a n c n' c' underlying22;rcases A with _|⟨b,off,ix⟩
 ·go_enter func59,ntmps59
  go_wp2_with fail;go_ret
  refine⟨_,rfl,?_,zE _⟩;have:l=[]:=by
   rcases vE n with h0|h0
   ·exact xZ (by have:=HL.out;omega)
   ·obtain⟨b,off,x,hb,_⟩:=H.out.at_ h0;cases hb
  rw[this];exact yZ _ _ _ _
 ·go_enter func59,ntmps59
  have HO:Hid ((w.alloc (.cells #[] 3)).ownsRow w.heap.size 3 1 (D (some ⟨w.heap.size,0,none⟩) 0 0) 0 []):=uT w #[] 0 (zX _) (by unfold maxLen;omega) rfl;go_wp2_with (at_builtin;refine dh _ rfl (.tmp 5) (.tmp 6) 22 rfl w.heap.size 3 i0 _ 8 underlying22 hi0 hz0 hz1 hz2 rfl _ 0 [] rfl HO.out p (some ⟨b,off,ix⟩) n c l rfl (H.out.ext ((zE _).alloc _)) (by omega) (by omega) (by simp) ?_;intro v' w' hown hg);go_ret
  refine⟨_,rfl,by rw[HL.out];simpa using hown,?_⟩;exact ab.grown ((zE _).alloc _) hg (fun k hk=>by have:=aq HO.out k hk;omega)
def eT(base:Nat)(w:World)(v:Value)(l:List F):Prop:=w.ownsRow base 3 1 v l.length ((wI l).map (Value.int .i64))
theorem jQ(l:List F):∀x∈wI l,aU x:=by intro x hx;unfold wI at hx;obtain⟨c,_,rfl⟩:=zF.1 hx;have:=c.lt;constructor<;>omega
theorem eT.isI{l:List F}(h:eT base w v l)(hp:p<base)(hl:l.length<=1000000):ak p w v (wI l) :=
 ak.of_own (e:=3) (n:=l.length) h hp (jQ l) (by rw[aT];omega)
theorem eT.form{l:List F}(h:eT base w v l)(h0:0<l.length):∃g c,v=D (some ⟨g,0,none⟩) l.length c/\base<=g/\g<w.heap.size/\l.length<=c/\c<=9223372036854775807:=by
 rcases h.2 with ⟨_,e⟩|⟨g,cap,cur,hv,hg,hh,h1,h2,_⟩
 ·omega
 ·exact⟨g,cap,hv,hg,al hh,h1,h2⟩
theorem eT.put{l:List F}(h:eT base w (D (some ⟨g,0,none⟩) n c) l)(hn:l.length=n)(j:Nat)(y:F) :
  eT base (w.setCell ⟨g,j,none⟩ (B C (y.n:Int))) (D (some ⟨g,0,none⟩) n c) (l.set j y):=by
 subst hn;have:=(World.ownsRow.stored h j (B C (y.n:Int))).1;unfold eT;rw[yF];unfold wI at this⊢;rw[wX,wX];exact this
theorem eT.cell{l:List F}{x:F}(h:eT base w (D (some ⟨g,0,none⟩) n c) l)(hn:l.length=n)(hx:l[k]?=some x):w.cell? ⟨g,k,none⟩=some (B C (x.n:Int)):=by subst hn;have hk:=(zY.1 hx).1;rw[World.ownsRow.cellAt h k (by omega)];unfold wI;rw[zP,zP,hx];rfl
theorem eT.froz{l:List F}(h:eT base w (D (some ⟨g,0,none⟩) n c) l)(hn:l.length=n)(k:Nat):w.frozen? ⟨g,k,none⟩=false:=by subst hn;exact World.ownsRow.frozenAt h k
theorem eT.ext{w':World}{l:List F}(h:eT base w v l)(hx:ab w w'):eT base w' v l:=ao h hx
theorem eT.xt{w':World}{l:List F}(h:eT base w v l)(hx:XT p w w')(hp:p<base):eT base w' v l:=dD h hx hp
def eD(g:List F)(x:F)(k:Nat):List F:=List.zipWith (·+·) (g++[0]) (0::((g.take k).map (·*x)++List.replicate (g.length-k) 0))
theorem fq(g:List F)(x:F)(k:Nat)(h:k<=g.length):(eD g x k).length=g.length+1:=by unfold eD;simp;omega
theorem jT{g:List F}{x:F}{i:Nat}(h:k<=g.length)(hi:i<g.length+1):(eD g x k)[i]?=some ((g++[0]).getD i 0+(if 1<=i/\i<=k then g.getD (i-1) 0*x else 0)):=by
 unfold eD;rw[List.getElem?_zipWith,F.getD_eq (w:=g++[0]) (by simpa using hi)];match i with
 |0=>simp
 |i+1 =>
  simp only[List.getElem?_cons_succ,Nat.add_sub_cancel];rcases zU i k with hik|hik
  ·rw[yY (by simp;omega),zP,yB,if_pos hik,F.getD_eq (w:=g) (by omega)];simp[show i+1<=k by omega]
  ·rw[yL (by simp;omega),List.getElem?_replicate,if_pos (by simp;omega)];simp[show ¬i+1<=k by omega]
theorem wu(g:List F)(x:F):eD g x 0=g++[0]:=by
 apply xW;intro i;rcases zU i (g.length+1) with hi|hi
 ·rw[jT (by omega) hi,if_neg (by omega),F.add_zero,F.getD_eq (w:=g++[0]) (by simpa using hi)]
 ·rw[zC (by rw[fq _ _ _ (by omega)];exact hi),zC (by simpa using hi)]
theorem xr(g:List F)(x:F):eD g x g.length=F.genStep g x:=by unfold eD F.genStep;simp
theorem uv{g:List F}{x c:F}(h:g[k]?=some c):(eD g x k).set (k+1) ((g++[0]).getD (k+1) 0+c*x)=eD g x (k+1):=by
 have hk:=(zY.1 h).1;have hc:g.getD k 0=c:=by rw[xU,h];rfl
 apply xW;intro i;rcases zU i (g.length+1) with hi|hi
 ·rw[yD,jT (by omega) hi,jT (by omega) hi,fq _ _ _ (by omega)];by_cases e:k+1=i
  ·subst e;rw[if_pos rfl,if_pos hi,if_pos ⟨by omega,by omega⟩,Nat.add_sub_cancel,hc]
  ·rw[if_neg e];congr 2
   by_cases e2:1<=i/\i<=k
   ·rw[if_pos e2,if_pos ⟨e2.1,by omega⟩]
   ·rw[if_neg e2,if_neg (by omega)]
 ·rw[zC (by rw[yF,fq _ _ _ (by omega)];exact hi),zC (by rw[fq _ _ _ (by omega)];exact hi)]
theorem lz(k:Nat):(F.genTo k).length=k+1:=by
 induction k with
 |zero=>rfl
 |succ k ih=>unfold F.genTo F.genStep;simp[ih]
theorem GA(b o c:Nat)(w:World):(Instr.arrayAt 169 (D (some ⟨b,o,none⟩) 6 c)).run prog w=.ok (.pointer (some ⟨b,o,none⟩)) w:=by
 have hS:prog.underlying 169=some (.array 6 3):=by kernel_rfl
 simp[Instr.arrayAt,run_underlying hS]
theorem sd(w:World)(hT:cK w) :
  Calls prog 128 #[] w fun e w'=>e=.returned (.agg #[B C 17,B C 26,B C 30,B C 27,B C 30,B C 24])/\ab w w':=by
 have HT:=zZ hT;clear hT;obtain⟨i0,hi0,hz0,hz1,hz2⟩:=info_parts Tryz.infoI;go_enter func128,ntmps128
 go_upto_region 2 with (fail)
 generalize hW:(w.alloc (.cells #[B C 0,B C 0,B C 0,B C 0,B C 0,B C 0] 169)).alloc (.cells #[B C 1] 3)=W;have HE:Hid (ab w W):=by subst hW;exact ((zE w).alloc _).alloc _
 have HR:Hid (W.heap[w.heap.size]?=some (.cells #[B C 0,B C 0,B C 0,B C 0,B C 0,B C 0] 169 (0,0))):=by subst hW;exact ((zE _).alloc _).blk (heap_alloc_new w _)
 have HG:Hid (ak W.heap.size W (D (some ⟨w.heap.size+1,0,none⟩) 1 1) (wI (F.genTo 0))):=by subst hW;have:=ak.litg (w:=w.alloc (.cells #[B C 0,B C 0,B C 0,B C 0,B C 0,B C 0] 169)) (p:=w.heap.size) [1] 3 (w.heap.size+1) (by rw[vW]) (by omega) (by decide) (by decide);exact this.re (zX _)
 clear hW;go_wp2_with fail;go_loopw [1,2] (fun s1 s2 wr=>∃(j:Nat) (A:Option Addr) (n c:Nat),s2=B C ((j:Int)+1)/\s1=D A n c/\j<=6/\1<=n/\n<=7/\Hid (n=j+1)/\n<=c/\c<=9223372036854775807/\Hid (ak wr.heap.size wr (D A n c) (wI (F.genTo j))/\ab W wr)) (fun _ i _=>7-(intOf i).toNat)
 case atStart=>exact⟨0,_,1,1,rfl,rfl,by omega,by omega,by omega,rfl,by omega,by omega,HG.out,zE _⟩
 case round =>
  obtain⟨j,A,n,c,rfl,rfl,hj,hn1,hn7,HN,hnc,hc,HJ⟩:=hrel;clear HG;by_cases hj6:j<6
  ·obtain⟨wo,rfl⟩:=nm (wr:World);have HTo:=zZ (HT.out.ext (HE.out.trans HJ.out.2));have hd:decide ((j:Int)+1<=6)=true:=by simp;omega
   go_wp2_with (first
    |(go_at_call 59;refine (jF _ (wI (F.genTo j)) _ HJ.out.1 (by rw[aT,lz];omega)).mono ?_;rintro e w1 ⟨v1,rfl,HO1,HX1⟩;replace HO1:=zZ HO1;replace HX1:=zZ HX1)
    |(at_builtin;refine aF _ rfl (.tmp 12) (.tmp 13) 22 rfl wo.heap.size 3 i0 _ 8 underlying22 hi0 hz0 hz1 hz2 rfl _ _ _ rfl (HO1.out.alloc _) _ _ rfl (by simp;rfl) rfl (by rw[aT,lz];omega) (by omega) (by have:=HX1.out.size;simp;omega) ?_;intro v2 w2 hown hg))
   have HO2:Hid (eT wo.heap.size w2 v2 (eD (F.genTo j) (F.gp (j+1)) 0)):=by
    rw[wu];show World.ownsRow _ _ _ _ _ _ _
    rw[tV,yG,yU];rw[aT]at hown;exact hown
   have HX2:Hid (ab wo w2):=ab.grown (HX1.out.alloc _) hg (aq HO1.out);clear hown hg HO1 HX1;have hgl:=lz j;have HX:=zZ (show F.genStep (F.genTo j) (F.gp (j+1))=F.genTo (j+1) from rfl);generalize F.genTo j=gl at *
   have HGL:=zZ (hgl.trans HN.out.symm);clear hgl;have hlen:(eD gl (F.gp (j+1)) 0).length=n+1:=by rw[fq _ _ _ (by omega),HGL.out]
   obtain⟨g3,c3,hv2,hg3,hg3',hc3,hc3'⟩:=HO2.out.form (by omega);rw[hlen]at hv2 hc3;subst hv2;have HI2:=zZ ((HJ.out.1.re hg3).ext HX2.out);have HT2:=zZ (HTo.out.ext HX2.out);have hwo2:2<=wo.heap.size:=HTo.out.lt;have hg32:2<=g3:=by omega
   have HE2:=zZ (HJ.out.2.trans HX2.out);have hWo:Hid (W.heap.size<=g3):=by have:=HJ.out.2.size;show _<=_;omega
   clear hlen HJ HTo HX2;go_wp2_with fail;go_loopw [17] (fun s17 wr=>∃(k:Nat),s17=B C k/\k<=n/\Hid (eT wo.heap.size wr (D (some ⟨g3,0,none⟩) (n+1) c3) (eD gl (F.gp (j+1)) k)/\XT g3 w2 wr)) (fun i _=>n-(intOf i).toNat)
   case atStart=>exact⟨0,rfl,by omega,HO2.out,XT.refl _ _⟩
   case round =>
    clear HO2;obtain⟨k,rfl,hk,HK⟩:=hrel;by_cases hkn:k<n
    ·have HIr:=zZ (HI2.out.xt HK.out.2);have HTr:=zZ (HT2.out.xt HK.out.2 hg32);obtain⟨b,o,z,rfl,-⟩:=HIr.out.at_ hkn;obtain⟨z,hcz,HZ,-⟩:=HIr.out.cell_ hkn;obtain⟨cf,hcf,rfl⟩:=DQ HZ.out;have hlk:(eD gl (F.gp (j+1)) k).length=n+1:=by rw[fq _ _ _ (by have:=HGL.out;omega),HGL.out]
     have hat:=HK.out.1.cell hlk (jT (k:=k) (i:=k+1) (by have:=HGL.out;omega) (by have:=HGL.out;omega));rw[if_neg (by omega),F.add_zero]at hat;have hfz:=HK.out.1.froz hlk (k+1);generalize hsf:(gl++[0]).getD (k+1) 0=sf at *
     have HSF:=zZ hsf;have HCF:=zZ hcf;have HLK:=zZ hlk;clear hsf hcf hlk HZ;have hS:wr.drew.cell? ⟨g3,k+1,none⟩=some (B C (sf.n:Int)):=hat;replace hS:=zZ hS;have e1:(0:Int)<=(k:Int)+1:=by omega
     have e2:(k:Int)+1<(n:Int)+1:=by omega
     have e3:IntKind.i64.wrap ((k:Int)+1)=(k:Int)+1:=yN _ (by omega);have e4:((k:Int)+1).toNat=k+1:=by omega
     go_upto_region 9 with (fail)
     refine zR 11 (fun w'=>w'.cell? ⟨g3,k+1,none⟩=some (B C (sf.n:Int))) ?_;refine zS 7 [(0,22),(1,23),(2,24),(3,25),(4,26),(5,27),(6,28)] hS.out ?_;iterate 7 refine zT ?_
     refine zN (zO 7 (fun K hK=>?_));go_simp;refine (vf (j+1) _ (HTr.out.ext (zE _).drew) (by omega)).mono ?_;rintro e x1 ⟨rfl,rfl⟩;refine hK.out _ _ (fun _=>hS.out) ?_;clear hK K;try simp only[kA]
     refine zO 8 (fun K hK=>?_);go_simp;refine (AM cf (F.gp (j+1)) _ (HTr.out.ext (zE _).drew)).mono ?_;rintro e x1 ⟨rfl,m2,hx1⟩;have HX1:Hid (ab wr x1):=by rw[hx1];exact (zE wr).drew.drewN m2
     clear hx1;have HO3:=zZ (HK.out.1.ext HX1.out);replace hS:=zZ (HX1.out.cell hat);replace hfz:=HO3.out.froz HLK.out (k+1);replace hat:=hS.out;refine hK.out _ _ (fun _=>hS.out) ?_;clear hK K;try simp only[kA]
     refine zS 2 [(9,31),(10,32)] hS.out ?_;iterate 2 refine zT ?_
     refine zN (zO 11 (fun K hK=>?_));go_simp;refine hK.out _ _ (fun h=>absurd rfl h) ?_;clear hK K;refine zD ?_;rw[pD];have HO4:=zZ (HO3.out.put HLK.out (k+1) (sf+cf*F.gp (j+1)));rw[<-HSF.out,uv HCF.out,HSF.out]at HO4;have HX4:Hid (XT g3 w2 (x1.setCell ⟨g3,k+1,none⟩ (B C ((sf+cf*F.gp (j+1)).n:Int)))):=(HK.out.2.ext HX1.out).setCell rfl _;go_wp2_with fail;go_roundw
     case rel=>exact⟨k+1,by go_num,by omega,HO4.out,HX4.out⟩
     case measure=>simp[intOf];omega
    ·obtain rfl:k=n:=by omega
     go_wp2_with fail;go_roundw
     case rel =>have hEr:ab W wr:=HK.out.2.fresh HE2.out hWo.out;refine⟨j+1,_,k+1,c3,by go_num,rfl,by omega,by omega,by have:=HN.out;omega,by show _=_;rw[HN.out],by omega,by omega,?_,hEr⟩;have:=HK.out.1;rw[<-HGL.out,xr,HX.out,HGL.out]at this;exact (this.isI (p:=0) (by omega) (by rw[lz];omega)).re (zX _)
     case measure=>simp[intOf];omega
  ·obtain rfl:j=6:=by omega
   obtain rfl:n=7:=HN.out;rw[F.genTo_six]at HJ;obtain⟨b,o,z,rfl,-⟩:=HJ.out.1.at_ (k:=0) (by omega);have ce:∀(i:Nat) (z:Int),(wI (1::F.genL))[i]?=some z->wr.cell? ⟨b,o+i,none⟩=some (B C z):=fun i z hz=>by have hi:=(zY.1 hz).1;obtain⟨y,hy,HY,-⟩:=HJ.out.1.cell_ (k:=i) (by simpa[wI,F.genL] using hi);rw[HY.out]at hz;injection hz with hz;rw[<-hz];exact hy
   have g0:=ce 1 17 rfl;have g1:=ce 2 26 rfl;have g2:=ce 3 30 rfl;have g3:=ce 4 27 rfl;have g4:=ce 5 30 rfl;have g5:=ce 6 24 rfl;have HRr:=zZ (HJ.out.2.blk HR.out);have r0:=ac HRr.out (i:=0) rfl;have r1':=ac HRr.out (i:=1) rfl;have r2':=ac HRr.out (i:=2) rfl;have r3:=ac HRr.out (i:=3) rfl;have r4:=ac HRr.out (i:=4) rfl;have r5:=ac HRr.out (i:=5) rfl;have f0:=ae HRr.out 0;have f1:=ae HRr.out 1;have f2:=ae HRr.out 2;have f3:=ae HRr.out 3;have f4:=ae HRr.out 4;have f5:=ae HRr.out 5;clear ce;have ha6:=GA;go_wp2_with fail;refine bodyPost_ret (v:=.agg #[B C 17,B C 26,B C 30,B C 27,B C 30,B C 24]) (by simp[results,results128,go_sem,r0,r1',r2',r3,r4,r5]) rfl ⟨rfl,?_⟩;have h1:=HE.out.trans HJ.out.2;exact ab.setCell (ab.setCell (ab.setCell (ab.setCell (ab.setCell (ab.setCell h1 (by simp) _) (by simp) _) (by simp) _) (by simp) _) (by simp) _) (by simp) _
def eV(l:List Int):Bool:=decide (1<=l.length)&&(decide (l.length<=9)&&!l.any fun x=>!iU x)
theorem nE{l:List Int}(h:eV l=true):1<=l.length/\l.length<=9/\∀x∈l,0<=x/\x<32:=by unfold eV at h;simp only[yT,decide_eq_true_eq,uY,wO]at h;refine⟨h.1,h.2.1,fun x hx=>?_⟩;have:=h.2.2 x hx;unfold iU at this;simp at this;omega
theorem BO{l:List Int}(h1:1<=l.length)(h2:l.length<=9)(h:∀x∈l,0<=x/\x<32):eV l=true:=by unfold eV;simp only[yT,decide_eq_true_eq,uY,wO];refine⟨h1,h2,fun x hx=>?_⟩;have:=h x hx;unfold iU;simp;omega
def pQ(d:List F):List F:=d++F.encRest F.genL d
def jI(l:List Int):List Int:=if eV l then wI (pQ (bv l)) else []
def mZ(l:List Int):Int:=if eV l then 0 else 2
theorem BR(d:List F):(pQ d).length=d.length+6:=by unfold pQ;rw[yU,(F.enc_code d).2]
theorem sO(d:List F):F.Code (pQ d):=(F.enc_code d).1
def jd(R:List F)(f:F)(k i:Nat):F:=if i<k then R.getD i 0+f*F.genL.getD i 0 else R.getD i 0
def pE(d:List F)(k:Nat):List F:=(d.take k).foldl (F.encStep F.genL) (List.replicate 6 0)
theorem EY(d:List F)(k:Nat):(pE d k).length=6:=(F.enc_fold (x:=F.gp 1) rfl (F.genL_root ⟨0,by decide⟩) (d.take k) _ (by simp)).1
theorem Cs{d:List F}{c:F}(h:d[k]?=some c):pE d (k+1)=F.encStep F.genL (pE d k) c:=by unfold pE;rw[ax h,uR];rfl
theorem K6{α:Type}{R:List α}(h:R.length=6):∃a b c d e f,R=[a,b,c,d,e,f]:=by
 match R,h with
 |[a,b,c,d,e,f],_=>exact⟨a,b,c,d,e,f,rfl⟩
theorem GR(a b c d e f x:F)(i:Nat)(hi:i<6):(F.encStep F.genL [a,b,c,d,e,f] x).getD i 0=jd [b,c,d,e,f,0] (x+a) 6 i:=by
 have:i=0\/i=1\/i=2\/i=3\/i=4\/i=5:=by omega
 rcases this with rfl|rfl|rfl|rfl|rfl|rfl<;>rfl
theorem gM{base' e size:Nat}{xs:List Value}(h:w.ownsRow base e size v n xs)(hb:base'<=base):w.ownsRow base' e size v n xs:=by
 rcases h with ⟨h1,h2|⟨g,cap,cur,hv,hg,r⟩⟩
 ·exact⟨h1,.inl h2⟩
 ·exact⟨h1,.inr ⟨g,cap,cur,hv,yR hb hg,r⟩⟩
theorem XT.setRow{w1:World}(h:XT p w w1)(cs:Array Value):XT p w (w1.setRow p cs) :=
 h.trans ⟨rfl,rfl,rfl,by simp,fun i _ hne=>setRow_other _ _ _ _ (fun e=>hne (by rw[e]))⟩
theorem Kq(w:World)(g:Nat)(a0 a1 a2 a3 a4 a5:Int)(h:w.heap[g]?=some (.cells #[B C a0,B C a1,B C a2,B C a3,B C a4,B C a5] 169 (0,0))) :
  ∃W,(Builtin.copy_ #[22,22] 3 #[D (some ⟨g,0,none⟩) 6 6,D (some ⟨g,1,none⟩) 5 5]).run prog w.drew=.ok (goInt 5) W /\
   W.heap[g]?=some (.cells #[B C a1,B C a2,B C a3,B C a4,B C a5,B C a5] 169 (0,0))/\XT g w W:=by
 have hd:w.drew.heap[g]?=some (.cells #[B C a0,B C a1,B C a2,B C a3,B C a4,B C a5] 169 (0,0)):=h;refine⟨_,run_copy_row (P:=prog) w.drew 22 22 3 3 g 0 6 6 ⟨g,1,none⟩ 5 5 _ 169 [B C a1,B C a2,B C a3,B C a4,B C a5] underlying22 (by kernel_rfl) hd rfl ?_ (by simp) (by simp[Value.oneCell']),?_,?_⟩
 ·intro j v hj;have hj5:j<5:=(zY.1 hj).1;rw[fa];refine ac hd ?_;have:j=0\/j=1\/j=2\/j=3\/j=4:=by omega
  rcases this with rfl|rfl|rfl|rfl|rfl<;>simpa using hj
 ·exact setRow_heap _ _ _ _ _ _ hd
 ·exact ((XT.refl g w).drew).setRow _
theorem C5(v:Value)(l:List Int)(w:World)(hT:cK w)(hI:ak p w v l) :
  Calls prog 91 #[v] w fun e w'=>∃v',e=.returned (.tuple #[v',B C (mZ l)])/\w'.ownsRow w.heap.size 3 1 v' (jI l).length ((jI l).map (Value.int .i64))/\ab w w':=by
 have h0:=hI.re (q:=w.heap.size) (zX _);obtain⟨A,n,c,rfl,hnc,hc,hnn,HL⟩:=hI.open_;have HI:=zZ h0;have HT:=zZ hT;clear hI hT h0;have bad:eV l=false->jI l=[]/\mZ l=2:=fun h=>by unfold jI mZ;rw[h];exact⟨rfl,rfl⟩
 have HB:=zZ bad;clear bad;by_cases h1:1<=n;case neg =>
  have HF:Hid (eV l=false):=by show _=_;unfold eV;rw[HL.out];simp;omega
  go_enter func91,ntmps91
  go_wp2_with fail;go_ret2
  rw[(HB.out HF.out).1,(HB.out HF.out).2];exact⟨_,rfl,yZ _ _ _ _,zE _⟩
 by_cases h9:n<=9;case neg =>
  have HF:Hid (eV l=false):=by show _=_;unfold eV;rw[HL.out];simp;omega
  go_enter func91,ntmps91
  go_wp2_with fail;go_ret2
  rw[(HB.out HF.out).1,(HB.out HF.out).2];exact⟨_,rfl,yZ _ _ _ _,zE _⟩
 rcases yS (l.any fun x=>!iU x) with hb|hb
 ·have HF:Hid (eV l=false):=by show _=_;unfold eV;rw[hb];simp
  go_enter func91,ntmps91
  go_wp2_with (go_at_call 115;refine (km _ l _ HI.out).mono ?_;rintro e w1 ⟨rfl,rfl⟩;rw[hb]);go_ret2
  rw[(HB.out HF.out).1,(HB.out HF.out).2];exact⟨_,rfl,yZ _ _ _ _,zE _⟩
 have hdb:eV l=true:=by unfold eV;rw[hb,HL.out];simp;omega
 have HD:Hid (jI l=wI (pQ (bv l))/\mZ l=0):=by unfold jI mZ;rw[hdb];exact⟨rfl,rfl⟩
 have HWI:=zZ (ww (nE hdb).2.2);have HLF:Hid ((bv l).length=n):=by show _=_;rw[bt];exact HL.out
 clear HB hdb;rw[<-HWI.out]at HI;go_enter func91,ntmps91
 go_upto_region 3 with (go_at_call 115;refine (km _ l _ (by have:=HI.out;rw[HWI.out]at this;exact this)).mono ?_;rintro e w1 ⟨rfl,hw⟩;replace hw:=hw.symm;subst hw;rw[hb])
 clear hb HWI;go_upto_region 5 with (go_at_call 128;refine (sd _ HT.out).mono ?_;rintro e w1 ⟨rfl,HX1⟩;replace HX1:=zZ HX1)
 generalize hd:bv l=d at *
 clear hd;generalize hW:(w1.alloc (.cells #[B C 17,B C 26,B C 30,B C 27,B C 30,B C 24] 169)).alloc (.cells #[B C 0,B C 0,B C 0,B C 0,B C 0,B C 0] 169)=W;have HE:Hid (ab w1 W):=by subst hW;exact ((zE w1).alloc _).alloc _
 have HGB:Hid (W.heap[w1.heap.size]?=some (.cells (eP (fun i=>F.genL.getD i 0) 6) 169 (0,0))):=by subst hW;exact ((zE _).alloc _).blk (heap_alloc_new w1 _)
 have HRB:Hid (W.heap[w1.heap.size+1]?=some (.cells (eP (fun i=>(pE d 0).getD i 0) 6) 169 (0,0))):=by subst hW;have:=heap_alloc_new (w1.alloc (.cells #[B C 17,B C 26,B C 30,B C 27,B C 30,B C 24] 169)) (.cells #[B C 0,B C 0,B C 0,B C 0,B C 0,B C 0] 169);rw[vW]at this;exact this
 clear hW;have hws:w.heap.size<=w1.heap.size:=HX1.out.size;have HIW:=zZ (((HI.out.re (q:=w1.heap.size+1) (by omega)).ext HX1.out).ext HE.out);have HTW:=zZ ((HT.out.ext HX1.out).ext HE.out);have hg2:2<=w1.heap.size+1:=by have:=HT.out.lt;omega
 have HEW:=zZ (HX1.out.trans HE.out);clear HT HX1;go_wp2_with fail;go_loopw [25] (fun s25 wr=>∃(k:Nat),s25=B C k/\k<=n/\Hid (wr.heap[w1.heap.size+1]?=some (.cells (eP (fun i=>(pE d k).getD i 0) 6) 169 (0,0))/\XT (w1.heap.size+1) W wr)) (fun i _=>n-(intOf i).toNat)
 case atStart=>exact⟨0,rfl,by omega,HRB.out,XT.refl _ _⟩
 case round =>
  clear HRB;obtain⟨k,rfl,hk,HK⟩:=hrel;by_cases hkn:k<n
  ·have HIr:=zZ (HIW.out.xt HK.out.2);obtain⟨b,o,z,rfl,-⟩:=HIr.out.at_ hkn;obtain⟨z,hcz,HZ,-⟩:=HIr.out.cell_ hkn;obtain⟨cf,hcf,rfl⟩:=DQ HZ.out;have HS:=zZ (Cs hcf);obtain⟨a0,a1,a2,a3,a4,a5,hR⟩:=K6 (EY d k);rw[hR]at HS HK;clear hR hcf HZ;have HKB:Hid (wr.heap[w1.heap.size+1]?=some (.cells #[B C (a0.n:Int),B C (a1.n:Int),B C (a2.n:Int),B C (a3.n:Int),B C (a4.n:Int),B C (a5.n:Int)] 169 (0,0))):=HK.out.1;have r0:=ac HKB.out (i:=0) rfl;have r1':=ac HKB.out (i:=1) rfl;have r2':=ac HKB.out (i:=2) rfl;have r3:=ac HKB.out (i:=3) rfl;have r4:=ac HKB.out (i:=4) rfl;have r5:=ac HKB.out (i:=5) rfl;simp only[List.getElem_toArray,List.getElem_cons_zero,List.getElem_cons_succ]at r0 r1' r2' r3 r4 r5;have f0:=ae HKB.out 0;have f1:=ae HKB.out 1;have f2:=ae HKB.out 2;have f3:=ae HKB.out 3;have f4:=ae HKB.out 4;have f5:=ae HKB.out 5;have hd:decide ((k:Int)<(n:Int))=true:=by simp;omega
   go_upto_region 9 with (fail)
   rw[pD];obtain⟨W2,hcp,hW2,hX2⟩:=Kq wr _ _ _ _ _ _ _ HKB.out;have HW2:=zZ hW2;have HX2:=zZ (HK.out.2.trans hX2);clear hW2 hX2 r0 r1' r2' r3 r4 r5 f0 f1 f2 f3 f4 f5;have r5:=ac HW2.out (i:=5) rfl;have f5:=ae HW2.out 5;refine zR 2 (fun _=>True) ?_;refine zS 2 [(0,33),(1,34)] trivial ?_;iterate 2 refine zT ?_
   refine zN (zO 2 (fun K hK=>?_));go_simp;refine hK.out _ _ (fun h=>absurd rfl h) ?_;clear hK K;refine zD ?_;go_upto_region 11 with (fail)
   have HB3:=zZ (bn HW2.out (i:=5) (B C 0));have HX3:=zZ (HX2.out.setCell (a:=⟨w1.heap.size+1,5,none⟩) rfl (B C 0));generalize W2.setCell ⟨w1.heap.size+1,5,none⟩ (B C 0)=W3 at *
   replace HB3:Hid (W3.heap[w1.heap.size+1]?=some (.cells (eP (jd [a1,a2,a3,a4,a5,0] (cf+a0) 0) 6) 169 (0,0))):=HB3.out;clear r5 f5 HKB HW2 HX2 hcp;go_wp2_with fail;go_loopw [37] (fun s37 wr=>∃(i:Nat),s37=B C i/\i<=6/\Hid (wr.heap[w1.heap.size+1]?=some (.cells (eP (jd [a1,a2,a3,a4,a5,0] (cf+a0) i) 6) 169 (0,0))/\XT (w1.heap.size+1) W wr)) (fun i _=>6-(intOf i).toNat)
   case atStart=>exact⟨0,rfl,by omega,HB3.out,HX3.out⟩
   case round =>
    clear HB3 HX3 HK HIr hcz;obtain⟨i,rfl,hi,HK⟩:=hrel;by_cases hi6:i<6
    ·have HTr:=zZ (HTW.out.xt HK.out.2 hg2);have hat:wr.cell? ⟨w1.heap.size+1,i,none⟩=some (B C ((([a1,a2,a3,a4,a5,0]:List F).getD i 0).n:Int)):=ac HK.out.1 (by rw[jR hi6];unfold jd;rw[if_neg (by omega)]);have gat:wr.cell? ⟨w1.heap.size,i,none⟩=some (B C ((F.genL.getD i 0).n:Int)):=ac (HK.out.2.blk HGB.out (by omega)) (jR hi6);have hfz:wr.frozen? ⟨w1.heap.size+1,i,none⟩=false:=ae HK.out.1 _;have HST:Hid (∀j,(if j=i then ([a1,a2,a3,a4,a5,0]:List F).getD i 0+(cf+a0)*F.genL.getD i 0 else jd [a1,a2,a3,a4,a5,0] (cf+a0) i j)=jd [a1,a2,a3,a4,a5,0] (cf+a0) (i+1) j):=by
      intro j;unfold jd;by_cases e:j=i
      ·subst e;rw[if_pos rfl,if_pos (by omega)]
      ·rw[if_neg e];by_cases e2:j<i
       ·rw[if_pos e2,if_pos (by omega)]
       ·rw[if_neg e2,if_neg (by omega)]
     generalize ([a1,a2,a3,a4,a5,0]:List F).getD i 0=ri at hat HST;generalize F.genL.getD i 0=gi at gat HST;have hS:wr.drew.cell? ⟨w1.heap.size+1,i,none⟩=some (B C (ri.n:Int))/\wr.drew.cell? ⟨w1.heap.size,i,none⟩=some (B C (gi.n:Int)):=⟨hat,gat⟩
     replace hS:=zZ hS;have e1:(0:Int)<=(i:Int):=xT _;have e2:(i:Int)<6:=by omega
     go_upto_region 14 with (fail)
     refine zR 10 (fun w'=>w'.cell? ⟨w1.heap.size+1,i,none⟩=some (B C (ri.n:Int))/\w'.cell? ⟨w1.heap.size,i,none⟩=some (B C (gi.n:Int))) ?_;refine zS 7 [(0,40),(1,41),(2,42),(3,43),(4,44),(5,45),(6,46)] hS.out ?_;iterate 7 refine zT ?_
     refine zN (zO 7 (fun K hK=>?_));go_simp;refine (AM (cf+a0) gi _ (HTr.out.ext (zE _).drew)).mono ?_;rintro e x1 ⟨rfl,m2,hx1⟩;have HX1:Hid (ab wr x1):=by rw[hx1];exact (zE wr).drew.drewN m2
     clear hx1;have HB5:=zZ (HX1.out.blk HK.out.1);replace hat:=HX1.out.cell hat;replace gat:=HX1.out.cell gat;replace hS:=zZ (yJ hat gat);replace hfz:=ae HB5.out i;refine hK.out _ _ (fun _=>hS.out) ?_;clear hK K;try simp only[kA]
     refine zS 2 [(8,48),(9,49)] hS.out ?_;iterate 2 refine zT ?_
     refine zN (zO 10 (fun K hK=>?_));go_simp;refine hK.out _ _ (fun h=>absurd rfl h) ?_;clear hK K;refine zD ?_;rw[pD];have HB6:Hid ((x1.setCell ⟨w1.heap.size+1,i,none⟩ (B C ((ri+(cf+a0)*gi).n:Int))).heap[w1.heap.size+1]?=some (.cells (eP (jd [a1,a2,a3,a4,a5,0] (cf+a0) (i+1)) 6) 169 (0,0))):=by
      have h:=bn HB5.out (i:=i) (B C ((ri+(cf+a0)*gi).n:Int));rw[Bz]at h;show _=_
      rw[h];congr 2
      exact iw fun j _=>HST.out j
     have HX6:Hid (XT (w1.heap.size+1) W (x1.setCell ⟨w1.heap.size+1,i,none⟩ (B C ((ri+(cf+a0)*gi).n:Int)))):=(HK.out.2.ext HX1.out).setCell rfl _;go_wp2_with fail;go_roundw
     case rel=>exact⟨i+1,by go_num,by omega,HB6.out,HX6.out⟩
     case measure=>simp[intOf];omega
    ·obtain rfl:i=6:=by omega
     go_wp2_with fail;go_roundw
     case rel =>refine⟨k+1,by go_num,by omega,?_,HK.out.2⟩;rw[HK.out.1,HS.out];refine congrArg (fun a=>some (Obj.cells a 169 (0,0))) ?_;exact iw fun j hj=>(GR _ _ _ _ _ _ _ _ hj).symm
     case measure=>simp[intOf];omega
  ·obtain rfl:k=n:=by omega
   have HTr:=zZ (HTW.out.xt HK.out.2 hg2);have HIr:=zZ (HIW.out.xt HK.out.2);have hall:pE d k=F.encRest F.genL d:=by unfold pE F.encRest;rw[bh HLF.out]
   rw[hall]at HK;have h6:(F.encRest F.genL d).length=6:=(F.enc_code d).2;have HEF:=zZ (show pQ d=d++F.encRest F.genL d from rfl);generalize F.encRest F.genL d=R at *
   clear hall;have hcs:eP (fun i=>R.getD i 0) 6=((wI R).map (Value.int .i64)).toArray:=by obtain⟨a0,a1,a2,a3,a4,a5,rfl⟩:=K6 h6;rfl
   rw[hcs]at HK;have HKB:=zZ HK.out.1;have HKX:=zZ HK.out.2;have H6:=zZ h6;clear HK hcs h6 HTr;obtain⟨i0,hi0,hz0,hz1,hz2⟩:=info_parts Tryz.infoI;go_upto_region 17 with (fail)
   refine zR 99 (fun _=>True) ?_;refine zS 2 [(0,52),(2,54)] trivial ?_;iterate 2 refine zT ?_
   refine zN (zO 1 (fun K hK=>?_));go_simp;refine (jF _ (wI d) _ (HIr.out.ext (zE wr).drew) (by rw[aT,HLF.out];omega)).mono ?_;rintro e x1 ⟨v1,rfl,HO1,HX1⟩;rw[aT,HLF.out]at HO1;have HB1:=zZ (HX1.blk (show wr.drew.heap[w1.heap.size+1]?=_ from HKB.out));replace HX1:=zZ ((zE wr).drew.trans HX1);replace HO1:=zZ HO1;refine hK.out _ _ (fun _=>trivial) ?_;clear hK K;try simp only[kA]
   refine zO 3 (fun K hK=>?_);have hmono:Hid (x1.ownsRow w.heap.size 3 1 v1 k ((wI d).map (Value.int .i64))):=gM HO1.out (by have:=HEW.out.size;have:=HKX.out.size;show _<=wr.drew.heap.size;exact yR HEW.out.size HKX.out.size);refine step_append_lies _ (by rfl) _ _ _ (by rfl) w.heap.size 3 i0 _ 1 8 underlying22 hi0 hz0 hz1 hz2 rfl (by omega) v1 k ((wI d).map (Value.int .i64)) (by rfl) hmono.out ⟨w1.heap.size+1,0,none⟩ 6 6 ((wI R).map (Value.int .i64)) (by rfl) (by simp[wI,H6.out]) (World.news_of_block (cs:=((wI R).map (Value.int .i64)).toArray) (t:=169) (fr:=(0,0)) HB1.out) (by simp[Value.oneCell']) (by omega) (by unfold maxLen;omega) (by omega) (by have:=HX1.out.size;have:=HKX.out.size;have:=HEW.out.size;omega) x1.heap.size rfl ?_;intro gg cap w3 hown3 hgrow hat hlt3;have HX3:Hid (ab w w3):=by refine ab.grown (w1:=x1) ((HKX.out.fresh HEW.out (by omega)).trans HX1.out) hgrow (aq hmono.out)
   replace hown3:=zZ hown3;clear hgrow hat hlt3;change K (Act.put _ (some 55) _) w3;refine hK.out _ _ (fun _=>trivial) ?_;clear hK K;try simp only[kA]
   refine zS 2 [(4,2),(5,3)] trivial ?_;iterate 2 refine zT ?_
   refine zN (zD ?_);go_wp2_with fail;go_ret2
   rw[HD.out.1,HD.out.2];refine⟨_,rfl,?_,HX3.out⟩;have h:=hown3.out;rw[HEF.out,tV,yG,yU,aT,aT,HLF.out,H6.out];exact h
end Go.Proofs.YtkaajgoeahahpaaGreatDoor

