import Derived.Laws.EntriesVeiled
import Derived.Test.YtpaidaphacoblaaGreatDoorK14
set_option linter.all false
set_option maxRecDepth 100000
set_option maxHeartbeats 0
namespace Go.Proofs.YtpaidaphacoblaaGreatDoor
open Go.Value renaming int→C,slice→H
open Go.IntKind renaming i64→G
open Go.RowKit _root_.Go.Proofs.Tryz
variable {c g p v:Int} {n q:Nat} {w:World}
structure DW (n base gL cL gP gH:Nat) (f:List Int) (es hs:List Nat) (w:World) (Ap:Option Addr) (np cp:Nat) (Ah:Option Addr) (nh ch:Nat):Prop where
 p:w.heap[gP]?=some (.cells #[H Ap np cp] 22 (0,0))
 h:w.heap[gH]?=some (.cells #[H Ah nh ch] 22 (0,0))
 oL:w.ownsRow base 3 1 (H (some ⟨gL,0,none⟩) n cL) n (f.map (Value.int .i64))
 oP:w.ownsRow base 3 1 (H Ap np cp) np ((fW es).map (Value.int .i64))
 oH:w.ownsRow base 3 1 (H Ah nh ch) nh ((fW hs).map (Value.int .i64))
 dPH:∀i,(Value.slice Ap np cp).ownBlock=some i->(Value.slice Ah nh ch).ownBlock≠some i
 dPL:(Value.slice Ap np cp).ownBlock≠some gL
 dHL:(Value.slice Ah nh ch).ownBlock≠some gL
 lP:es.length=np
 lH:hs.length=nh
 cP:np<=cp/\cp<=9223372036854775807
 cH:nh<=ch/\ch<=9223372036854775807
 ne:gP≠gH
section
variable {n base gL cL gP gH:Nat} {f:List Int} {es hs:List Nat} {w wa w3:World} {Ap:Option Addr} {np cp:Nat} {Ah:Option Addr} {nh ch:Nat}
theorem DW.ext(h:DW n base gL cL gP gH f es hs w Ap np cp Ah nh ch)(e:ab w wa):DW n base gL cL gP gH f es hs wa Ap np cp Ah nh ch :=
 { h with p:=e.blk h.p,h:=e.blk h.h,oL:=ao h.oL e,oP:=ao h.oP e,oH:=ao h.oH e }
theorem DW.setL(h:DW n base gL cL gP gH f es hs w Ap np cp Ah nh ch)(k:Nat)(y:Int):DW n base gL cL gP gH (f.set k y) es hs (w.setCell ⟨gL,k,none⟩ (C G y)) Ap np cp Ah nh ch:=by
 have hp:gP≠gL:=fun e=>aG h.oL h.p (by decide) (by simp[Value.ownBlock,e]);have hh:gH≠gL:=fun e=>aG h.oL h.h (by decide) (by simp[Value.ownBlock,e]);refine { h with p:=?_,h:=?_,oL:=?_,oP:=aN h.oP h.dPL _,oH:=aN h.oH h.dHL _ }
 ·rw[yP _ _ _ _ (by simpa using hp)];exact h.p
 ·rw[yP _ _ _ _ (by simpa using hh)];exact h.h
 ·rw[wX];exact (World.ownsRow.stored h.oL k (C G y)).1
theorem DW.growP(h:DW n base gL cL gP gH f es hs w Ap np cp Ah nh ch)(e:ab w wa){gg cap x:Nat}(hg:wa.grownBy w3 (Value.slice Ap np cp).ownBlock)(ho:w3.ownsRow base 3 1 (H (some ⟨gg,0,none⟩) (np+1) cap) (np+1) ((fW es).map (Value.int .i64)++[C G (x:Int)]))(hat:(Value.slice Ap np cp).ownBlock=some gg\/w.heap.size<=gg) :
  w3.heap[gP]?=some (.cells #[H Ap np cp] 22 (0,0))/\DW n base gL cL gP gH f (es++[x]) hs (w3.setCell ⟨gP,0,none⟩ (H (some ⟨gg,0,none⟩) (np+1) cap)) (some ⟨gg,0,none⟩) (np+1) cap Ah nh ch:=by
 have h1:=h.ext e;have keep:∀{b:Nat} {o:Obj},wa.heap[b]?=some o->(Value.slice Ap np cp).ownBlock≠some b->w3.heap[b]?=some o:=fun hb hne=>(hg.block _ (al hb) (fun e=>hne e.symm)).trans hb;have p3:=keep h1.p (aG h1.oP h1.p (by decide));have h3:=keep h1.h (aG h1.oP h1.h (by decide));have oL3:=aJ h1.oL hg (fun k hk e=>by have:gL=k:=(by simpa[Value.ownBlock] using hk);subst this;exact h1.dPL e);have oH3:=aJ h1.oH hg (fun k hk e=>h1.dPH k e hk);have hLlt:=(h.oL.lt gL rfl).2;have hnH:∀i,(Value.slice (some ⟨gg,0,none⟩) (np+1) cap).ownBlock=some i->(Value.slice Ah nh ch).ownBlock≠some i:=fun i hi hh=>by
  have e1:gg=i:=by simpa[Value.ownBlock] using hi
  subst e1;rcases hat with h4|h4
  ·exact h.dPH _ h4 hh
  ·have:=(h.oH.lt _ hh).2;omega
 have hnL:(Value.slice (some ⟨gg,0,none⟩) (np+1) cap).ownBlock≠some gL:=fun hi=>by
  have e1:gg=gL:=by simpa[Value.ownBlock] using hi
  subst e1;rcases hat with h4|h4
  ·exact h.dPL h4
  ·omega
 have e2:fW (es++[x])=fW es++[(x:Int)]:=by simp[fW]
 have ho':w3.ownsRow base 3 1 (H (some ⟨gg,0,none⟩) (np+1) cap) (np+1) ((fW (es++[x])).map (Value.int .i64)):=by rw[e2,yG];exact ho
 refine⟨p3,⟨bn p3 _,?_,aN oL3 (aG oL3 p3 (by decide)) _,aN ho' (aG ho' p3 (by decide)) _,aN oH3 (aG oH3 p3 (by decide)) _,hnH,hnL,h.dHL,by simp[h.lP],h.lH,lG ho',h.cH,h.ne⟩⟩;rw[yP _ _ _ _ (by simpa using h.ne.symm)];exact h3
theorem DW.growH(h:DW n base gL cL gP gH f es hs w Ap np cp Ah nh ch)(e:ab w wa){gg cap x:Nat}(hg:wa.grownBy w3 (Value.slice Ah nh ch).ownBlock)(ho:w3.ownsRow base 3 1 (H (some ⟨gg,0,none⟩) (nh+1) cap) (nh+1) ((fW hs).map (Value.int .i64)++[C G (x:Int)]))(hat:(Value.slice Ah nh ch).ownBlock=some gg\/w.heap.size<=gg) :
  w3.heap[gH]?=some (.cells #[H Ah nh ch] 22 (0,0))/\DW n base gL cL gP gH f es (hs++[x]) (w3.setCell ⟨gH,0,none⟩ (H (some ⟨gg,0,none⟩) (nh+1) cap)) Ap np cp (some ⟨gg,0,none⟩) (nh+1) cap:=by
 have h1:=h.ext e;have keep:∀{b:Nat} {o:Obj},wa.heap[b]?=some o->(Value.slice Ah nh ch).ownBlock≠some b->w3.heap[b]?=some o:=fun hb hne=>(hg.block _ (al hb) (fun e=>hne e.symm)).trans hb;have p3:=keep h1.p (aG h1.oH h1.p (by decide));have h3:=keep h1.h (aG h1.oH h1.h (by decide));have oL3:=aJ h1.oL hg (fun k hk e=>by have:gL=k:=(by simpa[Value.ownBlock] using hk);subst this;exact h1.dHL e);have oP3:=aJ h1.oP hg (fun k hk e=>h1.dPH k hk e);have hLlt:=(h.oL.lt gL rfl).2;have hnP:∀i,(Value.slice Ap np cp).ownBlock=some i->(Value.slice (some ⟨gg,0,none⟩) (nh+1) cap).ownBlock≠some i:=fun i hi hh=>by
  have e1:gg=i:=by simpa[Value.ownBlock] using hh
  subst e1;rcases hat with h4|h4
  ·exact h.dPH _ hi h4
  ·have:=(h.oP.lt _ hi).2;omega
 have hnL:(Value.slice (some ⟨gg,0,none⟩) (nh+1) cap).ownBlock≠some gL:=fun hi=>by
  have e1:gg=gL:=by simpa[Value.ownBlock] using hi
  subst e1;rcases hat with h4|h4
  ·exact h.dHL h4
  ·omega
 have e2:fW (hs++[x])=fW hs++[(x:Int)]:=by simp[fW]
 have ho':w3.ownsRow base 3 1 (H (some ⟨gg,0,none⟩) (nh+1) cap) (nh+1) ((fW (hs++[x])).map (Value.int .i64)):=by rw[e2,yG];exact ho
 refine⟨h3,⟨?_,bn h3 _,aN oL3 (aG oL3 h3 (by decide)) _,aN oP3 (aG oP3 h3 (by decide)) _,aN ho' (aG ho' h3 (by decide)) _,hnP,h.dPL,hnL,h.lP,by simp[h.lH],h.cP,lG ho',h.ne⟩⟩;rw[yP _ _ _ _ (by simpa using h.ne)];exact p3
end
theorem ak.of_own'{p base e:Nat}{v:Value}{l:List Int}(h:w.ownsRow base e 1 v n (l.map (Value.int .i64)))(hp:v.ownBlock≠some p)(hb:∀x∈l,aU x)(hl:l.length<=9223372036854775807):ak p w v l:=by
 have hn:l.length=n:=by simpa using h.1
 rcases h.2 with ⟨rfl,rfl⟩|⟨g,cap,cur,rfl,hg,hh,hnc,hcm,hcs,htk⟩
 ·obtain rfl:l=[]:=xZ hn;exact ak.nil p w
 ·subst hn;refine⟨_,cap,rfl,hnc,hcm,hl,hb,fun k x hx=>⟨g,0,rfl,(fun e=>hp (by simp[Value.ownBlock,e])),?_⟩⟩;have hk:=(zY.1 hx).1;rw[yV,h.cellAt k (by omega)];simp[hx]
theorem na{ps:List Nat}(h:∀p∈ps,p<1000000):∀x∈fW ps,aU x:=by intro x hx;unfold fW at hx;obtain⟨q,hq,rfl⟩:=zF.1 hx;have:=h q hq;constructor<;>omega
def KH(w:World)(l:List Int)(e:Ending)(w':World):Prop :=
 ∃(A:Option Addr) (m c:Nat) (d:List F) (er k:Int),e=.returned (.tuple #[H A m c,C G er,C G k])/\ak w.heap.size w' (H A m c) (wI d)/\ab w w' /\
  (cD (-1) l=false->d=[]/\er=0/\k=2) /\
  (cD (-1) l=true->(∃(cw:List F) (n:Nat),pn l cw n/\d=cw.take (l.length-6)/\er=n/\k=0)\/((∀cw n,¬pn l cw n)/\d=[]/\er=0/\k=25))
theorem Ck(v:Value)(l:List Int)(w:World)(hT:cK w)(hI:ak q w v l) :
  Calls prog 101 #[v] w (KH w l):=by
 have h0:=hI.re (q:=w.heap.size) (zX _);obtain⟨A,n,c,rfl,hnc,hc,hnn,HL⟩:=hI.open_;have HI:=zZ h0;have HT:=zZ hT;clear hI hT h0;have b2:2<=w.heap.size:=HT.out.lt;obtain⟨i0,hi0,hz0,hz1,hz2⟩:=info_parts Tryz.infoI;have HE0:=zZ ((zE w).alloc (.cells #[H A n c] 22));have HW0:=zZ (heap_alloc_new w (.cells #[H A n c] 22));rcases yS (cD (-1) l) with hb|hb;case inr =>
  go_enter func101,ntmps101
  go_wp2_with (go_at_call 144;refine (qB _ l (-1) _ (HI.out.ext HE0.out)).mono ?_;rintro e w1 ⟨rfl,HX1⟩;rw[hb]);go_ret3
  exact⟨none,0,0,[],0,2,rfl,ak.nil _ _,HE0.out.trans HX1,fun _=>⟨rfl,rfl,rfl⟩,fun h=>by rw[hb]at h;cases h⟩
 have hm:=ew hb;have HM:=zZ hm.2.2;have hn7:7<=n:=by have:=HL.out;omega
 have hn15:n<=15:=by have:=HL.out;omega
 have HBW:=zZ hb;clear hm;obtain⟨bA,oA,zA,rfl,-⟩:=HI.out.at_ (k:=0) (by omega);go_enter func101,ntmps101
 go_upto_region 3 with (go_at_call 144;refine (qB _ l (-1) _ (HI.out.ext HE0.out)).mono ?_;rintro e w1 ⟨rfl,HX1⟩;rw[hb];replace HX1:=zZ HX1)
 have HE1:=zZ (HE0.out.trans HX1.out);have HW1:=zZ (HX1.out.blk HW0.out);have cW:=ac HW1.out (i:=0) rfl;clear HE0 HW0 HX1 hb;go_upto_region 4 with (go_at_call 35;refine (jF _ l _ (HI.out.ext HE1.out) (by rw[HL.out];omega)).mono ?_;rintro e w2 ⟨vL,rfl,HO2,HX2⟩;rw[HL.out]at HO2;obtain⟨AL,cL,rfl,hcL1,hcL2⟩:=jD HO2;replace HX2:=zZ HX2;replace HO2:=zZ HO2)
 obtain⟨gL,rfl⟩:∃gL,AL=some ⟨gL,0,none⟩:=by
  rcases HO2.out.2 with ⟨e,h0⟩|⟨g',cap',cur,e,_⟩
  ·omega
  ·injection e with e1;exact⟨g',e1⟩
 have hgL1:w1.heap.size<=gL:=aq HO2.out gL rfl;have hgL2:gL<w2.heap.size:=(HO2.out.lt gL rfl).2;have hw1:w.heap.size<w1.heap.size:=al HW1.out;replace cW:=HX2.out.cell cW;go_upto_region 5 with (fail)
 have HEx:=zZ (((zE w2).alloc (.cells #[H none 0 0] 22)).alloc (.cells #[H none 0 0] 22));have HP0:=zZ (((zE _).alloc (.cells #[H none 0 0] 22)).blk (heap_alloc_new w2 (.cells #[H none 0 0] 22)));have HH0:=zZ (heap_alloc_new (w2.alloc (.cells #[H none 0 0] 22)) (.cells #[H none 0 0] 22));rw[vW]at HH0;replace cW:=HEx.out.cell cW;generalize (w2.alloc (.cells #[H none 0 0] 22)).alloc (.cells #[H none 0 0] 22)=W at *
 have HLS:Hid (DW n w.heap.size gL cL w2.heap.size (w2.heap.size+1) (fg l 0) (dY l 0) (gm l 0) W none 0 0 none 0 0):=by refine⟨HP0.out,HH0.out,?_,yZ _ _ _ _,yZ _ _ _ _,(fun i h=>by simp[Value.ownBlock]at h),(fun h=>by simp[Value.ownBlock]at h),(fun h=>by simp[Value.ownBlock]at h),rfl,rfl,⟨by omega,by omega⟩,⟨by omega,by omega⟩,by omega⟩;rw[zi];exact ao (gM HO2.out (by omega)) HEx.out
 have HEW:=zZ ((HE1.out.trans HX2.out).trans HEx.out);have HWW:=zZ ((HX2.out.trans HEx.out).blk HW1.out);have hWs:w2.heap.size+1<W.heap.size:=al HH0.out;clear HX2 HEx HP0 HH0 HO2 HE1 HW1;go_wp2_with fail;go_loopw [24] (fun s24 wr=>∃(k:Nat) (Ap:Option Addr) (np cp:Nat) (Ah:Option Addr) (nh ch:Nat),s24=C G k/\k<=n/\Hid (DW n w.heap.size gL cL w2.heap.size (w2.heap.size+1) (fg l k) (dY l k) (gm l k) wr Ap np cp Ah nh ch/\ab w wr/\wr.heap[w.heap.size]?=some (.cells #[H (some ⟨bA,oA,none⟩) n c] 22 (0,0))/\w2.heap.size+1<wr.heap.size)) (fun i _=>n-(intOf i).toNat)
 case atStart=>exact⟨0,none,0,0,none,0,0,rfl,by omega,HLS.out,HEW.out,HWW.out,hWs⟩
 case round =>
  clear HLS HEW HWW hWs;obtain⟨k,Ap,np,cp,Ah,nh,ch,rfl,hk,HK⟩:=hrel;obtain⟨k1,k2,k3,k4⟩:=HK.out;have L:=zZ k1;have HEr:=zZ k2;have HWr:=zZ k3;have hsz:=k4;clear HK k1 k2 k3 k4;have hcp:=L.out.cP;have hch:=L.out.cH;obtain⟨hcp1,hcp2⟩:=hcp;obtain⟨hch1,hch2⟩:=hch;have hnp:np<=k:=by rw[<-L.out.lP];exact BK _ _
  have hnh:nh<=k:=by rw[<-L.out.lH];exact Gj _ _
  by_cases hkn:k<n
  ·obtain⟨z,hcz,HZ,-⟩:=(HI.out.ext HEr.out).cell_ hkn;have hzb:=HM.out z (zW HZ.out);have cp0:=ac L.out.p (i:=0) rfl;have cp1:=ae L.out.p 0;have ch0:=ac L.out.h (i:=0) rfl;have ch1:=ae L.out.h 0;by_cases hz:z=-1
   ·subst hz;obtain⟨y,hy⟩:∃y,(fg l k)[k]?=some y:=⟨_,zV (by rw[Cx l k (by have:=HL.out;omega),HL.out];exact hkn)⟩
    have cl0:wr.cell? ⟨gL,k,none⟩=some (C G y):=by rw[L.out.oL.cellAt k (by omega),zP,hy];rfl
    have cl1:wr.frozen? ⟨gL,k,none⟩=false:=L.out.oL.frozenAt k;clear hy;go_upto_region 10 with (fail)
    have L2:=L.out.setL k 0;rw[Ct HZ.out]at L2;have HE2:=zZ (HEr.out.setCell (p:=⟨gL,k,none⟩) (by simp;omega) (C G 0));have HW2:Hid ((wr.setCell ⟨gL,k,none⟩ (C G 0)).heap[w.heap.size]?=some (.cells #[H (some ⟨bA,oA,none⟩) n c] 22 (0,0))):=by show _=_;rw[yP _ _ _ _ (by simp;omega)];exact HWr.out
    have hs2:(wr.setCell ⟨gL,k,none⟩ (C G 0)).heap.size=wr.heap.size:=by simp[World.setCell]
    rw[<-hs2]at hsz;replace L2:=zZ L2;clear cl0 cl1 hcz cp0 cp1 ch0 ch1 hs2;generalize wr.setCell ⟨gL,k,none⟩ (C G 0)=Wa at *
    have cp0:=ac L2.out.p (i:=0) rfl;have E1:=zZ ((zE Wa).alloc (.cells #[C G (k:Int)] 3));go_upto_region 12 with (at_builtin;refine wpList_append_lies _ rfl _ _ _ rfl w.heap.size 3 i0 _ 1 8 underlying22 hi0 hz0 hz1 hz2 rfl (by omega) (H Ap np cp) np ((fW (dY l k)).map (Value.int .i64)) (by rfl) (L2.out.oP.alloc _) ⟨Wa.heap.size,0,none⟩ 1 1 [C G (k:Int)] (by rfl) (by rfl) (World.news_of_block (cs:=#[C G (k:Int)]) (t:=3) (fr:=(0,0)) (heap_alloc_new Wa _)) (by simp[Value.oneCell']) (by omega) (by unfold maxLen;omega) (by omega) (by have:=HE2.out.size;simp;omega) (Wa.heap.size+1) (by simp) ?_;intro gg cap w3 hown3 hgrow hat hlt3;have HG3:=zZ (L2.out.growP E1.out hgrow hown3 (hat.imp id (fun e=>(by omega))));have HE3:=zZ (ab.grown (HE2.out.trans E1.out) hgrow (aq L2.out.oP));have HW3:Hid (w3.heap[w.heap.size]?=some (.cells #[H (some ⟨bA,oA,none⟩) n c] 22 (0,0))):=(by have h1:=E1.out.blk HW2.out;exact (hgrow.block _ (al h1) (fun e=>aG L2.out.oP HW2.out (by decide) e.symm)).trans h1);have hs3:w2.heap.size+1<w3.heap.size:=(by have:=hgrow.size;have:=E1.out.size;omega);have cp3:=ac HG3.out.1 (i:=0) rfl;have cf3:=ae HG3.out.1 0;clear hown3 hgrow hat hlt3)
    have HL4:=HG3.out.2;rw[<-BW HZ.out rfl,<-tv HZ.out rfl]at HL4;replace HL4:=zZ HL4;have HE4:=zZ (HE3.out.setCell (p:=⟨w2.heap.size,0,none⟩) (by simp;omega) (H (some ⟨gg,0,none⟩) (np+1) cap));have HW4:Hid ((w3.setCell ⟨w2.heap.size,0,none⟩ (H (some ⟨gg,0,none⟩) (np+1) cap)).heap[w.heap.size]?=some (.cells #[H (some ⟨bA,oA,none⟩) n c] 22 (0,0))):=by show _=_;rw[yP _ _ _ _ (by simp;omega)];exact HW3.out
    have hs4:Hid (w2.heap.size+1<(w3.setCell ⟨w2.heap.size,0,none⟩ (H (some ⟨gg,0,none⟩) (np+1) cap)).heap.size):=by show _<_;simpa[World.setCell] using hs3
    clear HG3 cp3 cf3 cp0;go_wp2_with fail;go_roundw
    case rel=>exact⟨k+1,_,_,_,_,_,_,by go_num,by omega,HL4.out,HE4.out,HW4.out,hs4.out⟩
    case measure=>simp[intOf];omega
   ·have hz1':(z==-1)=false:=by simp[hz]
    have hz0':0<=z:=by omega
    have HZN:=zZ hz;clear hz;have L2:=L.out;rw[zu HZ.out hz0' hzb.2]at L2;replace L2:=zZ L2;have E1:=zZ ((zE wr).alloc (.cells #[C G (k:Int)] 3));go_upto_region 12 with (at_builtin;refine wpList_append_lies _ rfl _ _ _ rfl w.heap.size 3 i0 _ 1 8 underlying22 hi0 hz0 hz1 hz2 rfl (by omega) (H Ah nh ch) nh ((fW (gm l k)).map (Value.int .i64)) (by rfl) (L2.out.oH.alloc _) ⟨wr.heap.size,0,none⟩ 1 1 [C G (k:Int)] (by rfl) (by rfl) (World.news_of_block (cs:=#[C G (k:Int)]) (t:=3) (fr:=(0,0)) (heap_alloc_new wr _)) (by simp[Value.oneCell']) (by omega) (by unfold maxLen;omega) (by omega) (by have:=HEr.out.size;simp;omega) (wr.heap.size+1) (by simp) ?_;intro gg cap w3 hown3 hgrow hat hlt3;have HG3:=zZ (L2.out.growH E1.out hgrow hown3 (hat.imp id (fun e=>(by omega))));have HE3:=zZ (ab.grown (HEr.out.trans E1.out) hgrow (aq L2.out.oH));have HW3:Hid (w3.heap[w.heap.size]?=some (.cells #[H (some ⟨bA,oA,none⟩) n c] 22 (0,0))):=(by have h1:=E1.out.blk HWr.out;exact (hgrow.block _ (al h1) (fun e=>aG L2.out.oH HWr.out (by decide) e.symm)).trans h1);have hs3:w2.heap.size+1<w3.heap.size:=(by have:=hgrow.size;have:=E1.out.size;omega);have cp3:=ac HG3.out.1 (i:=0) rfl;have cf3:=ae HG3.out.1 0;clear hown3 hgrow hat hlt3)
    have HL4:=HG3.out.2;rw[<-tf HZ.out HZN.out,<-qJ HZ.out HZN.out]at HL4;replace HL4:=zZ HL4;have HE4:=zZ (HE3.out.setCell (p:=⟨w2.heap.size+1,0,none⟩) (by simp;omega) (H (some ⟨gg,0,none⟩) (nh+1) cap));have HW4:Hid ((w3.setCell ⟨w2.heap.size+1,0,none⟩ (H (some ⟨gg,0,none⟩) (nh+1) cap)).heap[w.heap.size]?=some (.cells #[H (some ⟨bA,oA,none⟩) n c] 22 (0,0))):=by show _=_;rw[yP _ _ _ _ (by simp;omega)];exact HW3.out
    have hs4:Hid (w2.heap.size+1<(w3.setCell ⟨w2.heap.size+1,0,none⟩ (H (some ⟨gg,0,none⟩) (nh+1) cap)).heap.size):=by show _<_;simpa[World.setCell] using hs3
    clear HG3 cp3 cf3;go_wp2_with fail;go_roundw
    case rel=>exact⟨k+1,_,_,_,_,_,_,by go_num,by omega,HL4.out,HE4.out,HW4.out,hs4.out⟩
    case measure=>simp[intOf];omega
  ·have hke:k=n:=by omega
   rw[hke,<-HL.out]at L;rw[CZ]at L;have HIF:Hid (ak wr.heap.size wr (H (some ⟨gL,0,none⟩) n cL) (wI (bv l))):=by have h:=L.out.oL;rw[HL.out]at h;exact (ak.of_own (p:=0) (base:=w.heap.size) (e:=3) (n:=n) (l:=wI (bv l)) h (by omega) (jQ _) (by rw[aT,bt,HL.out];omega)).re (zX _)
   have cp0:=ac L.out.p (i:=0) rfl;go_upto_region 17 with (go_at_call 145;refine (G9 _ (bv l) _ (HT.out.ext HEr.out) HIF.out (by rw[bt,HL.out];omega)).mono ?_;rintro e w4 ⟨rfl,HX4⟩;have cq:∀o,(w4.alloc o).cell? ⟨w2.heap.size,0,none⟩=some (H Ap np cp):=(fun o=>((zE w4).alloc o).cell (HX4.cell cp0));replace HX4:=zZ HX4)
   have hgS:Hid (∀a b,((((w4.alloc (.cells #[C G ((aw (bv l) 0).n:Int),C G ((aw (bv l) 1).n:Int),C G ((aw (bv l) 2).n:Int),C G ((aw (bv l) 3).n:Int),C G ((aw (bv l) 4).n:Int),C G ((aw (bv l) 5).n:Int)] 214)).alloc a).alloc b).heap[w4.heap.size]?=some (.cells (eP (aw (bv l)) 6) 214 (0,0)))):=fun a b=>(((zE _).alloc a).alloc b).blk (heap_alloc_new w4 _);have hgV:Hid (∀o a b,((((w4.alloc o).alloc (.cells #[a] 22)).alloc b).heap[w4.heap.size+1]?=some (.cells #[a] 22 (0,0)))):=fun o a b=>by have:=((zE _).alloc b).blk (heap_alloc_new (w4.alloc o) (.cells #[a] 22));rw[vW]at this;exact this
   have hgF:Hid (∀o a b,((((w4.alloc o).alloc a).alloc (.cells #[b] 202)).heap[w4.heap.size+1+1]?=some (.cells #[b] 202 (0,0)))):=fun o a b=>by have:=heap_alloc_new ((w4.alloc o).alloc a) (.cells #[b] 202);rw[vW,vW]at this;exact this
   have HX5:Hid (∀o a b,ab w4 (((w4.alloc o).alloc a).alloc b)):=fun o a b=>(((zE w4).alloc o).alloc a).alloc b;have HgS:=zZ (hgS.out (.cells #[H none 0 0] 22) (.cells #[.nilFunc] 202));have HgV:=zZ (hgV.out (.cells #[C G ((aw (bv l) 0).n:Int),C G ((aw (bv l) 1).n:Int),C G ((aw (bv l) 2).n:Int),C G ((aw (bv l) 3).n:Int),C G ((aw (bv l) 4).n:Int),C G ((aw (bv l) 5).n:Int)] 214) (H none 0 0) (.cells #[.nilFunc] 202));have HgF:=zZ (hgF.out (.cells #[C G ((aw (bv l) 0).n:Int),C G ((aw (bv l) 1).n:Int),C G ((aw (bv l) 2).n:Int),C G ((aw (bv l) 3).n:Int),C G ((aw (bv l) 4).n:Int),C G ((aw (bv l) 5).n:Int)] 214) (.cells #[H none 0 0] 22) .nilFunc);have HX6:=zZ (HX5.out (.cells #[C G ((aw (bv l) 0).n:Int),C G ((aw (bv l) 1).n:Int),C G ((aw (bv l) 2).n:Int),C G ((aw (bv l) 3).n:Int),C G ((aw (bv l) 4).n:Int),C G ((aw (bv l) 5).n:Int)] 214) (.cells #[H none 0 0] 22) (.cells #[.nilFunc] 202));clear hgS hgV hgF HX5 cq cp0;generalize (((w4.alloc (.cells #[C G ((aw (bv l) 0).n:Int),C G ((aw (bv l) 1).n:Int),C G ((aw (bv l) 2).n:Int),C G ((aw (bv l) 3).n:Int),C G ((aw (bv l) 4).n:Int),C G ((aw (bv l) 5).n:Int)] 214)).alloc (.cells #[H none 0 0] 22)).alloc (.cells #[.nilFunc] 202))=X6 at *
   have hws4:wr.heap.size<=w4.heap.size:=HX4.out.size;have L6:=zZ ((L.out.ext HX4.out).ext HX6.out);have HE6:=zZ ((HEr.out.trans HX4.out).trans HX6.out);have HW6:=zZ ((HX4.out.trans HX6.out).blk HWr.out);have gf0:=ac HgF.out (i:=0) rfl;have gf1:=ae HgF.out 0;clear L HEr HWr HX4 HX6;go_upto_region 18 with (fail)
   have hn6:gL≠w4.heap.size+1+1:=by omega
   have D0:Hid (Dw (bv l) (gm l l.length) n w4.heap.size w.heap.size w2.heap.size (w4.heap.size+1) (w2.heap.size+1) (w4.heap.size+1+1) (some ⟨bA,oA,none⟩) c Ah nh ch w.heap.size
     (X6.setCell ⟨w4.heap.size+1+1,0,none⟩ (.func (.func 146) #[] #[.pointer (some ⟨w4.heap.size,0,none⟩),.pointer (some ⟨w.heap.size,0,none⟩),.pointer (some ⟨w2.heap.size,0,none⟩),.pointer (some ⟨w4.heap.size+1,0,none⟩),.pointer (some ⟨w2.heap.size+1,0,none⟩),.pointer (some ⟨w4.heap.size+1+1,0,none⟩)])) (dY l l.length) Ap np cp (H none 0 0)):=by
    have hk:∀b,b≠w4.heap.size+1+1->∀u,(X6.setCell ⟨w4.heap.size+1+1,0,none⟩ u).heap[b]?=X6.heap[b]?:=fun b hb u=>yP _ _ _ _ (by simpa using hb);have oH':=aN (a:=⟨w4.heap.size+1+1,0,none⟩) L6.out.oH (aG L6.out.oH HgF.out (by decide)) (.func (.func 146) #[] #[.pointer (some ⟨w4.heap.size,0,none⟩),.pointer (some ⟨w.heap.size,0,none⟩),.pointer (some ⟨w2.heap.size,0,none⟩),.pointer (some ⟨w4.heap.size+1,0,none⟩),.pointer (some ⟨w2.heap.size+1,0,none⟩),.pointer (some ⟨w4.heap.size+1+1,0,none⟩)]);refine⟨(hk _ (by omega) _).trans HgS.out,(hk _ (by omega) _).trans HW6.out,(hk _ (by omega) _).trans L6.out.p,(hk _ (by omega) _).trans HgV.out,(hk _ (by omega) _).trans L6.out.h,bn HgF.out _,?_,fun ad hA=>?_,aN L6.out.oP (aG L6.out.oP HgF.out (by decide)) _,L6.out.lP,(HT.out.ext HE6.out).ext ((zE _)) |> fun h=>⟨fun k hk'=>?_,fun k hk'=>?_⟩,b2,by omega,by omega,by omega,by omega,by omega,by omega,by omega,by omega,by omega,by omega,by omega⟩
    ·exact ak.of_own' (e:=3) oH' (aG L6.out.oH L6.out.p (by decide)) (na fun p hp=>by have:=uz hp;have:=HL.out;omega) (by rw[fd,L6.out.lH];omega)
    ·have hob:(Value.slice Ah nh ch).ownBlock=some ad.block:=by rw[hA];rfl
     refine⟨fun e=>aG L6.out.oH L6.out.p (by decide) (by rw[hob,e]),fun e=>aG L6.out.oH HgV.out (by decide) (by rw[hob,e]),fun e=>L6.out.dPH _ e hob,?_⟩;have:=(oH'.lt _ hob).2;exact this
    ·exact (wG (w:=X6) (hk 0 (by omega) _)).trans ((HT.out.ext HE6.out).1 k hk')
    ·exact (wG (w:=X6) (hk 1 (by omega) _)).trans ((HT.out.ext HE6.out).2 k hk')
   have HE7:=zZ (HE6.out.setCell (p:=⟨w4.heap.size+1+1,0,none⟩) (by simp;omega) (.func (.func 146) #[] #[.pointer (some ⟨w4.heap.size,0,none⟩),.pointer (some ⟨w.heap.size,0,none⟩),.pointer (some ⟨w2.heap.size,0,none⟩),.pointer (some ⟨w4.heap.size+1,0,none⟩),.pointer (some ⟨w2.heap.size+1,0,none⟩),.pointer (some ⟨w4.heap.size+1+1,0,none⟩)]));have HOL:=zZ (aN (a:=⟨w4.heap.size+1+1,0,none⟩) L6.out.oL (aG L6.out.oL HgF.out (by decide)) (.func (.func 146) #[] #[.pointer (some ⟨w4.heap.size,0,none⟩),.pointer (some ⟨w.heap.size,0,none⟩),.pointer (some ⟨w2.heap.size,0,none⟩),.pointer (some ⟨w4.heap.size+1,0,none⟩),.pointer (some ⟨w2.heap.size+1,0,none⟩),.pointer (some ⟨w4.heap.size+1+1,0,none⟩)]));rw[HL.out]at HOL;have hdPL:=zZ L6.out.dPL;have HLH:=zZ L6.out.lH;clear gf0 gf1 HgS HgV HgF HE6 HW6 L6;generalize X6.setCell ⟨w4.heap.size+1+1,0,none⟩ _=X7 at *
   have hnp15:np<=15:=by omega
   have hnh15:nh<=15:=by omega
   have HLP:=zZ D0.out.len;have hXg:gL<X7.heap.size:=(HOL.out.lt gL rfl).2;have HAG:=zZ (aq D0.out.own);have hw24:w2.heap.size+1<w4.heap.size:=by omega
   clear hke hkn hnp hnh hsz HIF;go_wp2_with fail;go_loopw [14] (fun s14 wr=>∃(wrong:Nat) (Aq:Option Addr) (cq:Nat) (vq:Value),s14=C G wrong/\wrong<=4/\np<=cq/\cq<=9223372036854775807/\Hid (Dw (bv l) (gm l l.length) n w4.heap.size w.heap.size w2.heap.size (w4.heap.size+1) (w2.heap.size+1) (w4.heap.size+1+1) (some ⟨bA,oA,none⟩) c Ah nh ch w.heap.size wr (dY l l.length) Aq np cq vq/\kv w2.heap.size (w4.heap.size+1) X7 (H Ap np cp) wr (H Aq np cq) /\
    ∀s,s<wrong->∀S,S.Sublist (gm l l.length)->S.length=s->∀c,F.Off (bv l) c (dY l l.length++S)->¬F.Code c)) (fun i _=>7-(intOf i).toNat)
   case atStart=>exact⟨0,Ap,cp,H none 0 0,rfl,by omega,by omega,by omega,D0.out,kv.refl _ _ _ _,fun s hs=>by omega⟩
   case round =>
    clear D0;obtain⟨wrong,Aq,cq,vq,rfl,hw4,hcq1,hcq2,HK⟩:=hrel;have D:=zZ HK.out.1;have HF:=zZ HK.out.2.1;have HNO:=zZ HK.out.2.2;clear HK;by_cases h6:2*wrong+np<=6
    ·have cf:=ac D.out.f (i:=0) rfl;have hd6:decide (2*(wrong:Int)+(np:Int)<=6)=true:=by simp;omega
     have HCA:=zZ (CJ (fl:=bv l) (wh:=gm l l.length) (n:=n) (gS:=w4.heap.size) (gW:=w.heap.size) (gP:=w2.heap.size) (gV:=w4.heap.size+1) (gH:=w2.heap.size+1) (gF:=w4.heap.size+1+1) (Aw:=some ⟨bA,oA,none⟩) (cw:=c) (Ah:=Ah) (nh:=nh) (ch:=ch) (base:=w.heap.size) (by rw[bt];exact HL.out) (by omega) HLH.out ⟨hch1,hch2⟩ wrong 0 wr (dY l l.length) Aq np cq vq D.out (by omega) (by omega) ⟨hcq1,hcq2⟩ (by rw[uZ];exact iY l l.length) (fun p hp=>by
      rw[uZ]at hp;rw[<-HL.out];rcases zM.1 hp with h|h
      ·exact pZ h
      ·exact uz h))
     rw[show ((0:Nat):Int)=0 from rfl]at HCA;go_upto_if 58 with (go_at_call 146;refine HCA.out.mono ?_;rintro e x5 ⟨b5,ps5,A5,n5,c5,v5,rfl,d5,f5,g51,g52,ht,hf⟩;replace d5:=zZ d5;replace f5:=zZ f5;replace ht:=zZ ht;replace hf:=zZ hf)
     clear HCA cf;cases b5 with
     |false =>
      obtain⟨hps5,hno5⟩:=hf.out rfl;subst hps5;have hn5:n5=np:=by rw[<-d5.out.len,HLP.out]
      subst hn5;have HNO5:=zZ hno5;clear hno5 ht hf;go_wp2_with fail;go_roundw
      case rel =>
       refine⟨wrong+1,A5,c5,v5,by go_num,by omega,by omega,by omega,d5.out,HF.out.trans f5.out,fun s hs S hS hl c ho hc=>?_⟩;by_cases e:s=wrong
       ·subst e;rw[uZ]at HNO5;exact HNO5.out S hS hl c ho hc
       ·exact HNO.out s (by omega) S hS hl c ho hc
      case measure=>simp[intOf];omega
     |true =>
      rw[show (!true)=false from rfl];obtain⟨S,xs,q1,q2,q3,q4,q5,q6⟩:=ht.out rfl;rw[uZ]at q1;have HNEAR:Hid (pn l (F.addAt (bv l) ps5 xs) wrong):=by rw[q3]at q6⊢;exact CR q1 q2 (F.Off.addAt _ _ _) q6 (by rw[HLP.out];exact h6) HNO.out
      have hSF:=HF.out.trans f5.out;have hneP:gL≠w2.heap.size:=by omega
      have hneV:gL≠w4.heap.size+1:=by omega
      have HOL5:Hid (x5.ownsRow w.heap.size 3 1 (H (some ⟨gL,0,none⟩) n cL) n ((wI (bv l)).map (Value.int .i64))):=by
       rcases HOL.out with ⟨o1,⟨e,_⟩|⟨g,cap,cur,e,o2,o3,o4⟩⟩
       ·cases e
       ·injection e with e1 e2 e3;injection e1 with e1;injection e1 with e1;subst e1;exact⟨o1,.inr ⟨gL,cap,cur,by rw[e3],o2,(hSF.block gL hXg hneP hneV hdPL.out).trans o3,o4⟩⟩
      have hdP5:(Value.slice A5 n5 c5).ownBlock≠some gL:=fun h=>by
       rcases hSF.own _ h with h1|h1
       ·exact hdPL.out h1
       ·omega
      have hE5:ab w x5:=by have hs:=HE7.out.size;refine⟨hSF.os.trans HE7.out.os,hSF.tape.trans HE7.out.tape,hSF.output.trans HE7.out.output,yR HE7.out.size hSF.size,fun i hi=>?_⟩;exact (hSF.block i (zB hi hs) (by omega) (by omega) (fun h=>by have:=HAG.out i h;omega)).trans (HE7.out.block i hi)
      have HE5:=zZ hE5;have HD5:=zZ hdP5;have hn5:n5<=6:=by rw[<-d5.out.len,q3,yU,q2,HLP.out];omega
      have hplt:∀p∈ps5,p<n:=fun p hp=>by
       rw[q3]at hp;rw[<-HL.out];rcases zM.1 hp with h|h
       ·exact pZ h
       ·exact uz (q1.subset h)
      have HPI:Hid (ak gL x5 (H A5 n5 c5) (fW ps5)):=ak.of_own' (e:=3) d5.out.own hdP5 (na fun p hp=>by have:=hplt p hp;omega) (by rw[fd,d5.out.len];omega);have hgL5:gL<wr.heap.size:=zB hXg HF.out.size;have HVI:=zZ (q5 gL hgL5);obtain⟨Av,nv,cv,rfl,hcv1,hcv2,-,HLV⟩:=(q5 gL hgL5).open_;have HLX:Hid (xs.length=n5):=by show _=_;rw[q4,d5.out.len]
      have hnv:nv=n5:=by have:=HLV.out;rw[aT,HLX.out]at this;exact this.symm
      subst hnv;have HPL:=zZ hplt;have HLPS:=zZ d5.out.len;have cp5:=ac d5.out.p (i:=0) rfl;have gv5:=zZ d5.out.v;have hlf:(bv l).length=n:=by rw[bt];exact HL.out
      have HLF:=zZ hlf;clear q1 q2 q3 q4 q5 q6 ht hf hE5 hdP5 hplt hSF hlf;go_upto_region 23 with (fail)
      go_wp2_with fail;go_loopw [61] (fun s61 wq=>∃(k:Nat),s61=C G k/\k<=nv/\Hid (wq.ownsRow w.heap.size 3 1 (H (some ⟨gL,0,none⟩) n cL) n ((wI (F.addAt (bv l) (ps5.take k) (xs.take k))).map (Value.int .i64))/\XT gL x5 wq)) (fun i _=>nv-(intOf i).toNat)
      case atStart=>exact⟨0,rfl,by omega,by simpa[F.addAt] using HOL5.out,XT.refl _ _⟩
      case round =>
       clear HOL5 cp5;obtain⟨k,rfl,hk,HK⟩:=hrel;by_cases hkn:k<nv
       ·obtain⟨b1,o1,z1,rfl,-⟩:=(HPI.out.xt HK.out.2).at_ hkn;obtain⟨z1,hc1,HZ1,-⟩:=(HPI.out.xt HK.out.2).cell_ hkn;obtain⟨pl,hpl,rfl⟩:=oz HZ1.out;obtain⟨b3,o3,z3,rfl,-⟩:=(HVI.out.xt HK.out.2).at_ hkn;obtain⟨z3,hc3,HZ3,-⟩:=(HVI.out.xt HK.out.2).cell_ hkn;obtain⟨xf,hxf,rfl⟩:=DQ HZ3.out;have hpn:pl<n:=HPL.out pl (zW hpl);have hgv:=ac (HK.out.2.blk gv5.out (fun e=>hneV e.symm)) (i:=0) rfl;have hlen:(F.addAt (bv l) (ps5.take k) (xs.take k)).length=n:=by rw[F.addAt_len];exact HLF.out
        have hsnoc:F.addAt (bv l) (ps5.take (k+1)) (xs.take (k+1))=(F.addAt (bv l) (ps5.take k) (xs.take k)).set pl ((F.addAt (bv l) (ps5.take k) (xs.take k)).getD pl 0+xf):=by rw[ax hpl,ax hxf];exact mB _ _ _ _ _ (by rw[yW,yW,HLPS.out,HLX.out])
        have hcell:wr.cell? ⟨gL,pl,none⟩=some (C G (((F.addAt (bv l) (ps5.take k) (xs.take k)).getD pl 0).n:Int)):=by rw[HK.out.1.cellAt pl (by omega),zP];unfold wI;rw[zP,F.getD_eq (w:=F.addAt (bv l) (ps5.take k) (xs.take k)) (by omega)];rfl
        have hfz:wr.frozen? ⟨gL,pl,none⟩=false:=HK.out.1.frozenAt pl;have HSN:=zZ hsnoc;generalize (F.addAt (bv l) (ps5.take k) (xs.take k)).getD pl 0=yf at *
        clear hsnoc hpl hxf HZ1 HZ3;have hS:wr.drew.cell? ⟨gL,pl,none⟩=some (C G (yf.n:Int))/\wr.drew.cell? ⟨w4.heap.size+1,0,none⟩=some (H (some ⟨b3,o3,none⟩) nv cv)/\wr.drew.cell? ⟨b3,o3+k,none⟩=some (C G (xf.n:Int)):=⟨hcell,hgv,hc3⟩
        replace hS:=zZ hS;have e1:(0:Int)<=(k:Int):=xT _;have e2:(k:Int)<(nv:Int):=by omega
        have e3:(0:Int)<=(pl:Int):=xT _;have e4:(pl:Int)<(n:Int):=by omega
        go_upto_region 25 with (fail)
        refine zR 10 (fun w'=>w'.cell? ⟨gL,pl,none⟩=some (C G (yf.n:Int))/\w'.cell? ⟨w4.heap.size+1,0,none⟩=some (H (some ⟨b3,o3,none⟩) nv cv)/\w'.cell? ⟨b3,o3+k,none⟩=some (C G (xf.n:Int))) ?_;refine zS 10 [(0,66),(1,67),(2,68),(3,69),(4,70),(5,71),(6,72),(7,73),(8,74),(9,75)] hS.out ?_;iterate 10 refine zT ?_
        refine zN (zO 10 (fun K hK=>?_));go_simp;refine hK.out _ _ (fun h=>absurd rfl h) ?_;clear hK K;refine zD ?_;rw[pD];have HO6:Hid ((wr.setCell ⟨gL,pl,none⟩ (C G ((yf+xf).n:Int))).drew.ownsRow w.heap.size 3 1 (H (some ⟨gL,0,none⟩) n cL) n ((wI (F.addAt (bv l) (ps5.take (k+1)) (xs.take (k+1)))).map (Value.int .i64))):=by have h:=(World.ownsRow.stored HK.out.1 pl (C G ((yf+xf).n:Int))).1;rw[HSN.out];unfold wI at h⊢;rw[wX,wX];exact h.drew
        have HX6:Hid (XT gL x5 (wr.setCell ⟨gL,pl,none⟩ (C G ((yf+xf).n:Int))).drew):=(HK.out.2.setCell rfl _).drew;clear hS hcell hgv hc1 hc3 hfz;go_wp2_with fail;go_roundw
        case rel=>exact⟨k+1,by go_num,by omega,HO6.out,HX6.out⟩
        case measure=>simp[intOf];omega
       ·have hke:k=nv:=by omega
        rw[hke,bh HLPS.out,bh HLX.out]at HK;clear hke;have e1:(0:Int)<=(n:Int)-6:=by omega
        have e2:(n:Int)-6<=(cL:Int):=by omega
        have e3:((n:Int)-6).toNat=n-6:=by omega
        go_wp2_with fail;go_ret3
        have hlen:(F.addAt (bv l) ps5 xs).length=n:=by rw[F.addAt_len];exact HLF.out
        refine⟨some ⟨gL,0,none⟩,n-6,n-6,(F.addAt (bv l) ps5 xs).take (n-6),(wrong:Int),0,?_,?_,HK.out.2.fresh HE5.out (by omega),(fun h=>by rw[HBW.out]at h;cases h),fun _=>.inl ⟨_,wrong,HNEAR.out,by rw[HL.out],rfl,rfl⟩⟩
        ·rfl
        ·have h:=ak.of_own' (p:=w.heap.size) (e:=3) HK.out.1 (by simp[Value.ownBlock];omega) (jQ _) (by rw[aT,hlen];omega);have h2:=h.take (k:=n-6) (by omega);have e:wI ((F.addAt (bv l) ps5 xs).take (n-6))=(wI (F.addAt (bv l) ps5 xs)).take (n-6):=by unfold wI;rw[List.map_take]
         rw[e];obtain⟨A',c',hv,k1,k2,k3,k4,k5⟩:=h2;injection hv with v1 v2 v3;subst v1;exact⟨_,n-6,by rw[<-v2],by omega,by omega,k3,k4,k5⟩
    ·have HNN:=zZ (Fz (l:=l) (wrong:=wrong) (by rw[HLP.out];omega) HNO.out);have HE5:Hid (ab w wr):=by
      have hs:=HE7.out.size;refine⟨HF.out.os.trans HE7.out.os,HF.out.tape.trans HE7.out.tape,HF.out.output.trans HE7.out.output,yR HE7.out.size HF.out.size,fun i hi=>?_⟩;exact (HF.out.block i (zB hi hs) (by omega) (by omega) (fun h=>by have:=HAG.out i h;omega)).trans (HE7.out.block i hi)
     go_wp2_with fail;go_ret3
     exact⟨none,0,0,[],0,25,rfl,ak.nil _ _,HE5.out,(fun h=>by rw[HBW.out]at h;cases h),fun _=>.inr ⟨HNN.out,rfl,rfl,rfl⟩⟩
def rB{α:Type}(a b:List α)(k:Nat):Prop:=∀j,j<k->a[j]?=b[j]?
section
variable {α:Type} {a b:List α} {k:Nat} {x y:α}
theorem rB.zero(a b:List α):rB a b 0:=fun j hj=>by omega
theorem rB.succ(h:rB a b k)(hx:a[k]?=some x)(hy:b[k]?=some y)(e:x=y):rB a b (k+1):=by
 intro j hj;by_cases c:j=k
 ·subst c;rw[hx,hy,e]
 ·exact h j (by omega)
theorem rB.all(h:rB a b n)(ha:a.length=n)(hb:b.length=n):a=b:=by
 apply xW;intro j;rcases zU j n with hj|hj
 ·exact h j hj
 ·rw[zC (by omega),zC (by omega)]
theorem JZ(hx:a[k]?=some x)(hy:b[k]?=some y)(e:x≠y):a≠b:=by rintro rfl;rw[hx]at hy;exact e (xF hy)
end
theorem IA(va vb:Value)(a b:List Int)(w:World){p:Nat}(ha:ak p w va a)(hb:ak q w vb b) :
  Calls prog 16 #[va,vb] w fun e w'=>e=.returned (.bool (decide (a=b)))/\∃m,w'=w.drewN m:=by
 obtain⟨A,n,c,rfl,hnc,hc,hnn,HL⟩:=ha.open_;obtain⟨B,n',c',rfl,hnc',hc',hnn',HL'⟩:=hb.open_;have HA:=zZ ha;have HB:=zZ hb;clear ha hb;by_cases hn:n=n'
 ·subst hn;go_enter func16,ntmps16
  go_wp2_with fail;go_loopw [5] (fun i wr=>∃(k m:Nat),k<=n/\i=C G k/\Hid (rB a b k)/\wr=w.drewN m) (fun i _=>n-(intOf i).toNat)
  case atStart=>exact⟨0,0,xL _,rfl,rB.zero _ _,rfl⟩
  case round =>
   obtain⟨k,m,hk,rfl,HK,rfl⟩:=hrel;by_cases hlt:k<n
   ·obtain⟨b1,o1,x,rfl,hcx,HX,hx1,hx2⟩:=HA.out.at_ hlt;obtain⟨b2,o2,y,rfl,hcy,HY,hy1,hy2⟩:=HB.out.at_ hlt;by_cases e:x=y
    ·have e1:(x != y)=false:=by simp[e]
     have E:=zZ e;clear e;go_wp2_with fail;go_quiet (fail)
     go_wp2_with fail;go_roundw
     case rel=>exact⟨k+1,_,by omega,by go_num,HK.out.succ HX.out HY.out E.out,rfl⟩
     case measure=>simp[intOf];omega
    ·have e1:(x != y)=true:=by simp[e]
     have E:=zZ e;clear e;go_wp2_with fail;go_quiet (fail)
     go_wp2_with fail;go_ret
     exact⟨aa (by have:=JZ HX.out HY.out E.out;simp[this]),_,World.drewN_drewN _ _ _⟩
   ·obtain rfl:k=n:=by omega
    go_wp2_with fail;go_ret
    exact⟨aa (by have:=HK.out.all HL.out HL'.out;simp[this]),_,rfl⟩
 ·have e1:((n:Int)!=(n':Int))=true:=by simp;omega
  have HN:Hid (a≠b):=by rintro rfl;exact hn (HL.out.symm.trans HL'.out)
  clear hn;go_enter func16,ntmps16
  go_wp2_with fail;go_ret
  exact⟨aa (by have:=HN.out;simp[this]),0,rfl⟩
theorem rP(va vb:Value)(a b:List Int)(w:World){p:Nat}(ha:ak p w va a)(hb:ak q w vb b) :
  Calls prog 16 #[va,vb] w fun e w'=>e=.returned (.bool (decide (a=b)))/\ab w w' :=
 (IA va vb a b w ha hb).mono fun _ _ ⟨he,m,hm⟩=>⟨he,by rw[hm];exact (zE _).drewN _⟩
theorem Ja{d:List F}(h1:1<=d.length)(h9:d.length<=9):jI (wI d)=wI (pQ d)/\mZ (wI d)=0:=by
 have:eV (wI d)=true:=BO (by rw[aT];exact h1) (by rw[aT];exact h9) (by intro x hx;unfold wI at hx;obtain⟨c,_,rfl⟩:=zF.1 hx;have:=c.lt;omega)
 unfold jI mZ;rw[this,tP];exact⟨rfl,rfl⟩
theorem Cn(cw:List F)(i:Nat):(wI cw).getD i 0=((cw.getD i 0).n:Int):=by unfold wI;rw[xU,xU,zP];cases cw[i]?<;>rfl
theorem JA(cw:List F)(k:Nat):dY (wI cw) k=[]:=by rw[List.eq_nil_iff_forall_not_mem];intro i hi;have:=(kW.1 hi).2;rw[Cn]at this;omega
theorem Fv{cw:List F}(hc:F.Code cw):pn (wI cw) cw 0:=by refine⟨by rw[aT],hc,?_,by rw[JA];decide⟩;unfold fj;rw[tP,List.length_eq_zero_iff,List.filter_eq_nil_iff];intro i _;simp
theorem E7{cw:List F}(h7:7<=cw.length)(h15:cw.length<=15):cD (-1) (wI cw)=true:=mO (by rw[aT];exact h7) (by rw[aT];exact h15) (by intro x hx;unfold wI at hx;obtain⟨c,_,rfl⟩:=zF.1 hx;have:=c.lt;omega)
theorem qq{base:Nat}{v:Value}{l:List Int}(h:w.ownsRow base 3 1 v n (l.map (Value.int .i64)))(hb:∀x∈l,aU x)(hl:l.length<=9223372036854775807):ak w.heap.size w v l :=
 ak.of_own' (p:=w.heap.size) (e:=3) h (fun e=>by have:=(h.lt _ e).2;omega) hb hl
def dj(p c g v:Int):Bool:=decide ((0<=p/\p<32)/\(0<=g/\g<32)/\(0<=v/\v<32)/\0<=c/\c<=9999)
theorem ju:dj p c g v=true↔(0<=p/\p<32)/\(0<=g/\g<32)/\(0<=v/\v<32)/\0<=c/\c<=9999:=by unfold dj;exact decide_eq_true_iff
theorem rG(n m:Int)(w:World) :
  Calls prog 128 #[C G n,C G m] w fun e w'=>e=.returned (.bool (decide (0<=n/\n<=m)))/\w=w':=by
 go_enter func128,ntmps128
 go_wp2
 all_goals (go_ret;exact⟨aa (by first|(simp;omega)|(rw[yE];simp;omega)),rfl⟩)
theorem dw(n m:Int)(w:World)(h:0<=n/\n<=m) :
  Calls prog 128 #[C G n,C G m] w fun e w'=>e=.returned (.bool true)/\w=w' :=
 (rG n m w).mono fun _ _ ⟨he,hw⟩=>⟨he.trans (aa (decide_eq_true h)),hw⟩
theorem lw(n m:Int)(w:World)(h:¬(0<=n/\n<=m)) :
  Calls prog 128 #[C G n,C G m] w fun e w'=>e=.returned (.bool false)/\w=w' :=
 (rG n m w).mono fun _ _ ⟨he,hw⟩=>⟨he.trans (aa (decide_eq_false h)),hw⟩
theorem jJ(p c g v:Int)(w:World) :
  Calls prog 92 #[.agg #[C G p,C G c,C G g,C G v]] w fun e w'=>e=.returned (.bool (dj p c g v))/\ab w w':=by
 by_cases hp:0<=p/\p<=31;rotate_left
 ·have HB:Hid (dj p c g v=false):=by show _=_;unfold dj;exact decide_eq_false (by omega)
  go_enter func92,ntmps92
  go_wp2_with fail;refine (lw p 31 _ hp).mono ?_;rintro r w1 ⟨rfl,rfl⟩;go_wp2_with fail;go_ret
  exact⟨aa HB.out.symm,(zE _).alloc _⟩
 by_cases hg:0<=g/\g<=31;rotate_left
 ·have HB:Hid (dj p c g v=false):=by show _=_;unfold dj;exact decide_eq_false (by omega)
  go_enter func92,ntmps92
  go_wp2_with fail;refine (dw p 31 _ hp).mono ?_;rintro r w1 ⟨rfl,rfl⟩;go_wp2_with fail;refine (lw g 31 _ hg).mono ?_;rintro r w1 ⟨rfl,rfl⟩;go_wp2_with fail;go_ret
  exact⟨aa HB.out.symm,(zE _).alloc _⟩
 by_cases hv:0<=v/\v<=31;rotate_left
 ·have HB:Hid (dj p c g v=false):=by show _=_;unfold dj;exact decide_eq_false (by omega)
  go_enter func92,ntmps92
  go_wp2_with fail;refine (dw p 31 _ hp).mono ?_;rintro r w1 ⟨rfl,rfl⟩;go_wp2_with fail;refine (dw g 31 _ hg).mono ?_;rintro r w1 ⟨rfl,rfl⟩;go_wp2_with fail;refine (lw v 31 _ hv).mono ?_;rintro r w1 ⟨rfl,rfl⟩;go_wp2_with fail;go_ret
  exact⟨aa HB.out.symm,(zE _).alloc _⟩
 by_cases hc:0<=c/\c<=9999
 ·have HB:Hid (dj p c g v=true):=by show _=_;unfold dj;exact decide_eq_true (by omega)
  go_enter func92,ntmps92
  go_wp2_with fail;refine (dw p 31 _ hp).mono ?_;rintro r w1 ⟨rfl,rfl⟩;go_wp2_with fail;refine (dw g 31 _ hg).mono ?_;rintro r w1 ⟨rfl,rfl⟩;go_wp2_with fail;refine (dw v 31 _ hv).mono ?_;rintro r w1 ⟨rfl,rfl⟩;go_wp2_with fail;refine (dw c 9999 _ hc).mono ?_;rintro r w1 ⟨rfl,rfl⟩;go_wp2_with fail;go_ret
  exact⟨aa HB.out.symm,(zE _).alloc _⟩
 ·have HB:Hid (dj p c g v=false):=by show _=_;unfold dj;exact decide_eq_false (by omega)
  go_enter func92,ntmps92
  go_wp2_with fail;refine (dw p 31 _ hp).mono ?_;rintro r w1 ⟨rfl,rfl⟩;go_wp2_with fail;refine (dw g 31 _ hg).mono ?_;rintro r w1 ⟨rfl,rfl⟩;go_wp2_with fail;refine (dw v 31 _ hv).mono ?_;rintro r w1 ⟨rfl,rfl⟩;go_wp2_with fail;refine (lw c 9999 _ hc).mono ?_;rintro r w1 ⟨rfl,rfl⟩;go_wp2_with fail;go_ret
  exact⟨aa HB.out.symm,(zE _).alloc _⟩
def gK(p c g v:Int):List Int:=[p,c/1024,c/32%32,c%32,g,v]
def Ic(p c g v:Int):List Int:=if dj p c g v then gK p c g v else []
def Dn(p c g v:Int):Int:=if dj p c g v then 0 else 2
def Gt(p c g v:Int)(w:World)(e:Ending)(w':World):Prop:=∃A n cc k,e=.returned (.tuple #[H A n cc,C G k])/\k=Dn p c g v/\ak w'.heap.size w' (H A n cc) (Ic p c g v)/\ab w w'
theorem BZ(h:dj p c g v=true):∀x∈gK p c g v,0<=x/\x<32:=by intro x hx;have:=ju.1 h;unfold gK at hx;simp only[yM,wL,or_false]at hx;omega
theorem zr(h:dj p c g v=true):∀x∈gK p c g v,aU x:=fun x hx=>by have:=BZ h x hx;constructor<;>omega
theorem n9(h:dj p c g v=true):Ic p c g v=gK p c g v/\Dn p c g v=0:=by unfold Ic Dn;rw[h];exact⟨rfl,rfl⟩
theorem tM(h:dj p c g v=false):Ic p c g v=[]/\Dn p c g v=2:=by unfold Ic Dn;rw[h];exact⟨rfl,rfl⟩
theorem ak.lits(l:List Int)(t:TypeId)(hb:∀x∈l,aU x)(hl:l.length<=9223372036854775807):ak (w.alloc (.cells (l.map (Value.int .i64)).toArray t)).heap.size (w.alloc (.cells (l.map (Value.int .i64)).toArray t)) (H (some ⟨w.heap.size,0,none⟩) l.length l.length) l :=
 ⟨_,_,rfl,zX _,by omega,hl,hb,fun k x hx=>⟨w.heap.size,0,rfl,by simp,by rw[yV,cell_of_row _ _ k _ t (0,0) (heap_alloc_new w _)];simp[hx]⟩⟩
theorem tx(p c g v:Int)(w:World) :
  Calls prog 56 #[.agg #[C G p,C G c,C G g,C G v]] w (Gt p c g v w):=by
 rcases yS (dj p c g v) with hb|hb
 ·obtain⟨⟨hp1,hp2⟩,⟨hg1,hg2⟩,⟨hv1,hv2⟩,hc1,hc2⟩:=ju.1 hb;obtain⟨s1,s2⟩:=n9 hb;have S1:=zZ s1;have S2:=zZ s2;have HM:=zZ (zr hb);clear s1 s2;obtain⟨w0,hw0⟩:=nm (w.alloc (.cells #[C G p,C G c,C G g,C G v] 39));have cc:=fun i=>cell_of_row (w:=w.alloc (.cells #[C G p,C G c,C G g,C G v] 39)) w.heap.size i _ _ _ (heap_alloc_new w _);rw[<-hw0]at cc;have c0:=cc 0;have c1:=cc 1;have c2:=cc 2;have c3:=cc 3;simp at c0 c1 c2 c3;have HE:Hid (ab w w0):=by rw[hw0];exact (zE _).alloc _
  clear cc;go_enter func56,ntmps56
  go_wp2_with fail;rw[<-hw0];clear hw0;refine (jJ p c g v _).mono ?_;rintro r w1 ⟨rfl,hx⟩;rw[hb];replace c0:=hx.cell c0;replace c1:=hx.cell c1;replace c2:=hx.cell c2;replace c3:=hx.cell c3;have HX:=zZ (HE.out.trans hx);clear hx HE;go_wp2_with fail;go_ret2
  refine⟨_,_,_,_,rfl,S2.out.symm,?_,HX.out.alloc _⟩;rw[S1.out];exact ak.lits (gK p c g v) 3 HM.out (by unfold gK;simp)
 ·obtain⟨s1,s2⟩:=tM hb;have S1:=zZ s1;have S2:=zZ s2;clear s1 s2;go_enter func56,ntmps56
  go_wp2_with fail;refine (jJ p c g v _).mono ?_;rintro r w1 ⟨rfl,hx⟩;rw[hb];have HX:=zZ hx;clear hx;go_wp2_with fail;go_ret2
  exact⟨_,_,_,_,rfl,S2.out.symm,by rw[S1.out];exact ak.nil _ _,ab.trans ((zE _).alloc _) HX.out⟩
theorem qy{p:Nat}{A:Option Addr}{c k:Nat}{f:List F}(h:ak p w (H A n c) (wI f))(hk:k<n):∃b off,A=some ⟨b,off,none⟩/\w.cell? ⟨b,off+k,none⟩=some (C G ((f.getD k 0).n:Int)):=by obtain⟨b,off,x,ha,hc,hx,_⟩:=h.at_ hk;refine⟨b,off,ha,?_⟩;rw[hc];have e:=Cn f k;rw[xU,hx.out]at e;rw[<-e];rfl
end Go.Proofs.YtpaidaphacoblaaGreatDoor

