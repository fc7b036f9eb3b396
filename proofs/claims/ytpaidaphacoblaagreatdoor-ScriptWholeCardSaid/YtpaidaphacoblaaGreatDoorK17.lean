import Derived.Test.YtpaidaphacoblaaGreatDoorK16
set_option linter.all false
set_option maxRecDepth 100000
set_option maxHeartbeats 0
namespace Go.Proofs.YtpaidaphacoblaaGreatDoor
open Go.Value renaming int→B,slice→D
open Go.IntKind renaming i64→C
open Go.RowKit _root_.Go.Proofs.Tryz
variable {w:World}
theorem DR{G i:Nat}{l:List Int}{t:Nat}(h:w.heap[G]?=some (.cells (l.map (Value.int .i64)).toArray t (0,0)))(x:Int):(w.setCell ⟨G,i,none⟩ (B C x)).heap[G]?=some (.cells ((l.set i x).map (Value.int .i64)).toArray t (0,0)):=by have:=bn (i:=i) h (B C x);rw[List.setIfInBounds_toArray,<-wX]at this;exact this
theorem qm{M:Nat->Nat->F}{wd j:Nat}:((List.range j).map (F.rowI M wd)).length=j:=by simp
theorem Hf(M:Nat->Nat->F)(wd:Nat):(List.range 6).map (F.rowI M wd)=F.matI M wd:=rfl
theorem mU{base G n:Nat}{f:List F}(h:w.heap[G]?=some (.cells ((wI f).map (Value.int .i64)).toArray 3 (0,0)))(hl:f.length=n)(hb:base<=G)(hn:n<=1000000):eT base w (D (some ⟨G,0,none⟩) n n) f:=by subst hl;unfold eT;refine⟨by simp[wI],.inr ⟨G,f.length,_,by simp,hb,h,by simp,by unfold maxLen;omega,by simp[wI],?_⟩⟩;rw[xV (by simp[wI])]
theorem Fh{p:Nat}(v:Value)(wd:List F)(j:Nat)(w:World)(hI:ak p w v (wI wd))(hj:j<=999) :
  Calls prog 130 #[v,B C ((j:Int)+1)] w fun e w'=>e=.returned (B C ((F.ev (F.gp (j+1)) wd).n:Int))/\ab w w':=by
 have h:=yz v wd (j+1) w hI (by omega);rw[show (((j+1:Nat)):Int)=(j:Int)+1 by omega]at h;exact h
theorem Il{base i c g:Nat}{L:List Int}{x:Int}(hx:L[i]?=some x)(h:w.ownsRow base 3 1 (D (some ⟨g,0,none⟩) (i+1) c) (i+1) ((L.take i).map (Value.int .i64)++[B C x])):w.ownsRow base 3 1 (D (some ⟨g,0,none⟩) (i+1) c) (i+1) ((L.take (i+1)).map (Value.int .i64)):=by rw[ax hx,yG];exact h
def JI(w:World)(wd:List F)(ps:List Nat)(n:Nat)(e:Ending)(w':World):Prop :=
 ∃(g cp:Nat) (cw:List F),e=.returned (.tuple #[D (some ⟨g,0,none⟩) n cp,.bool (iG (wI cw))])/\n<=cp/\cp<=9223372036854775807/\cw.length=n/\eT w.heap.size w' (D (some ⟨g,0,none⟩) n cp) cw/\ab w w' /\
  F.Off wd cw ps/\∀c,F.Off wd c ps->F.Code c->c=cw
theorem pa{q q':Nat}(v vp:Value)(l:List Int)(ps:List Nat)(w:World)(hI:ak q w v l)(hP:ak q' w vp (fW ps))(hn1:1<=l.length)(hn:l.length<=31)(hd:ps.Nodup)(hlt:∀p∈ps,p<l.length)(h6:ps.length<=6)(hel:∀i x,i ∉ ps->l[i]?=some x->0<=x/\x<32) :
  Calls prog 94 #[v,vp] w (JI w (xl 0 (bv l) ps) ps l.length):=by
 have h0:=hI.re (q:=w.heap.size) (zX _);have h1:=hP.re (q:=w.heap.size) (zX _);have b0:0<=w.heap.size:=xL _;obtain⟨A,n,c,rfl,hnc,hc,hnn,HL⟩:=hI.open_;obtain⟨Ap,u,cp,rfl,hpc,hpp,hpn,HLp⟩:=hP.open_;have HU:Hid (ps.length=u):=by have:=HLp.out;rw[fd]at this;exact this
 have hu6:u<=6:=by have:=HU.out;omega
 have HI:=zZ h0;have HP:=zZ h1;have HD:=zZ hd;have HLT:Hid (∀p∈ps,p<n):=by intro p hp;have:=hlt p hp;rw[HL.out]at this;exact this
 rw[HL.out]at hn hn1;have HW:=zZ (Ks hel);have HWL:Hid ((xl 0 (bv l) ps).length=n):=by show _=_;rw[uj,bt];exact HL.out
 have HW0:Hid (∀p∈ps,(xl 0 (bv l) ps).getD p 0=0):=fun p hp=>by rw[xU,vt,if_pos ⟨by rw[bt];exact hlt p hp,hp⟩];rfl
 rw[HL.out];clear hI hP h0 h1 hd hlt h6 hel HLp;generalize hwd:xl 0 (bv l) ps=wd at *
 obtain⟨i0,hi0,hz0,hz1,hz2⟩:=info_parts Tryz.infoI;have hsz:(prog.info? 3).map (·.size)=some 1:=by kernel_rfl
 have hmkI:=lf n (by omega);obtain⟨b,o,z,rfl,-⟩:=HI.out.at_ (k:=0) (by omega);have HC0:Hid (∀j v,(l.map (Value.int .i64))[j]?=some v->(w.alloc (.cells (madeCells #[B C 0] n) 3)).cell? ((⟨b,o,none⟩:Addr).add j)=some v):=fun j v hj=>by
  rw[zP,yO]at hj;obtain⟨x,hx,rfl⟩:=hj;obtain⟨x',h1,h2,_⟩:=((HI.out.ext ((zE w).alloc (.cells (madeCells #[B C 0] n) 3))).cell_ (k:=j) (by rw[<-HL.out];exact (zY.1 hx).1))
  rw[h2.out]at hx;injection hx with hx;subst hx;have e:(⟨b,o,none⟩:Addr).add j=⟨b,o+j,none⟩:=by
   unfold Addr.add;by_cases hj:j=0
   ·subst hj;rfl
   ·rw[if_neg hj]
  rw[e];exact h1
 have HG0:Hid ((w.alloc (.cells (madeCells #[B C 0] n) 3)).heap[w.heap.size]?=some (.cells (List.replicate n (Value.int .i64 0)).toArray 3 (0,0))):=by
  have h:=heap_alloc_new w (.cells (madeCells #[B C 0] n) 3);have e:(madeCells #[Value.int .i64 0] n)=(List.replicate n (Value.int .i64 0)).toArray:=by rw[lA];simp[wI,F.n_zero]
  rw[<-e];exact h
 have HE0:=zZ ((zE w).alloc (.cells (madeCells #[B C 0] n) 3));go_enter func94,ntmps94
 go_upto_region 4 with (refine wpList_copy_splice rfl (.tmp 26) (.tmp 27) 22 22 rfl 3 underlying22 hsz (some ⟨w.heap.size,0,none⟩) (some ⟨b,o,none⟩) n n n c rfl rfl w.heap.size 0 (List.replicate n (B C 0)) 3 HG0.out (l.map (Value.int .i64)) (by rw[zJ,HL.out];simp) (fun _=>⟨rfl,_,rfl,HC0.out⟩) (by rw[zJ,HL.out];simp) (by simp[Value.oneCell']) w.heap.size w HE0.out (zX _) ?_;intro w2 hg2 hb2)
 replace hg2:Hid (w2.heap[w.heap.size]?=some (.cells ((xl 0 l (ps.take 0)).map (Value.int .i64)).toArray 3 (0,0))):=by have h:=hg2.out;rw[show splice (List.replicate n (Value.int .i64 0)) 0 (l.map (Value.int .i64))=l.map (Value.int .i64) from by simp[splice,HL.out]]at h;exact h
 replace hb2:=zZ (show ab w w2 from hb2);clear HC0 HG0 HE0 hmkI HI;generalize hG:w.heap.size=G at *
 have HGB:=zZ hG;clear hG;go_wp2_with fail;go_loopw [8] (fun s8 wr=>∃(k:Nat),s8=B C (k:Int)/\k<=u/\Hid (wr.heap[G]?=some (.cells ((xl 0 l (ps.take k)).map (Value.int .i64)).toArray 3 (0,0))/\ab w wr)) (fun i _=>u-(intOf i).toNat)
 case atStart=>exact⟨0,rfl,by omega,hg2.out,hb2.out⟩
 case round =>
  obtain⟨k,rfl,hk,HK⟩:=hrel;clear hg2 hb2;have HGr:=zZ HK.out.1;have HEr:=zZ HK.out.2;clear HK;by_cases hku:k<u
  ·have HPr:=zZ (HP.out.ext HEr.out);obtain⟨bp,op,z,rfl,-⟩:=HPr.out.at_ hku;obtain⟨z,hcz,HZ,-⟩:=HPr.out.cell_ hku;obtain⟨pl,hpl,rfl⟩:=oz HZ.out;have hpn':pl<n:=HLT.out pl (zW hpl);obtain⟨y,hy⟩:∃y,(xl 0 l (ps.take k))[pl]?=some y:=⟨_,zV (by rw[uj,HL.out];exact hpn')⟩
   have hcy:wr.cell? ⟨G,pl,none⟩=some (B C y):=ac HGr.out (by rw[List.getElem?_toArray,zP,hy];rfl);have hfz:=ae HGr.out pl;have HG4:=zZ (DR (i:=pl) HGr.out 0);rw[<-F1,show ps.take k++[pl]=ps.take (k+1) from by rw[List.take_add_one,hpl];rfl]at HG4;have HE4:=zZ (HEr.out.setCell (p:=⟨G,pl,none⟩) (by rw[HGB.out];exact zX _) (B C 0));clear hpl HZ hy HPr;go_wp2_with fail;go_roundw
   case rel=>exact⟨k+1,by go_num,by omega,HG4.out,HE4.out⟩
   case measure=>simp[intOf];omega
  ·obtain rfl:k=u:=by omega
   have HG1:Hid (wr.heap[G]?=some (.cells ((wI wd).map (Value.int .i64)).toArray 3 (0,0))):=by have h:=HGr.out;rw[xV (by rw[HU.out];exact zX _),HW.out]at h;exact h
   have HE1:=HEr;clear HGr HEr;obtain⟨W1,hW1⟩:=nm (wr:World);subst hW1;have hGW:G<W1.heap.size:=al HG1.out;have HPW:=zZ (HP.out.ext HE1.out);obtain⟨iS,hiS,hy0,hy1,hy2⟩:=info_parts Tryz.infoS;go_wp2_with fail;go_loopw [9,10] (fun s9 s10 wr=>∃(j:Nat) (A9:Option Addr) (c9:Nat),s9=D A9 j c9/\s10=B C ((j:Int)+1)/\j<=6/\j<=c9/\c9<=9223372036854775807/\Hid (lT W1.heap.size 22 3 wr (D A9 j c9) ((List.range j).map (F.rowI (F.sysM wd ps) (k+1)))/\ab W1 wr)) (fun _ j _=>7-(intOf j).toNat)
   case atStart=>exact⟨0,none,0,rfl,rfl,by omega,by omega,by omega,lT.nil _ _ _ _,zE _⟩
   case round =>
    obtain⟨j,A9,c9,rfl,rfl,hj,hj1,hj2,HK⟩:=hrel;have HM:=zZ HK.out.1;have HX:=zZ HK.out.2;clear HK;by_cases hj6:j<6
    ·obtain⟨wo,hwo⟩:=nm (wr:World);subst hwo;have hjl:decide ((j:Int)+1<=6)=true:=by simp;omega
     go_wp2_with fail;go_loopw [11,12] (fun s11 s12 wr=>∃(i:Nat) (A11:Option Addr) (c11:Nat),s11=D A11 i c11/\s12=B C (i:Int)/\i<=k/\i<=c11/\c11<=9223372036854775807/\Hid (wr.ownsRow wo.heap.size 3 1 (D A11 i c11) i (((F.rowI (F.sysM wd ps) (k+1) j).take i).map (Value.int .i64))/\ab wo wr)) (fun _ i _=>k-(intOf i).toNat)
     case atStart=>exact⟨0,none,0,rfl,rfl,by omega,by omega,by omega,yZ _ _ _ _,zE _⟩
     case round =>
      obtain⟨i,A11,c11,rfl,rfl,hi,hi1,hi2,HK⟩:=hrel;have HO:=zZ HK.out.1;have HY:=zZ HK.out.2;clear HK;by_cases hik:i<k
      ·have HPr:=zZ ((HPW.out.ext HX.out).ext HY.out);obtain⟨bp,op,z,rfl,-⟩:=HPr.out.at_ hik;obtain⟨z,hcz,HZ,-⟩:=HPr.out.cell_ hik;obtain⟨pl,hpl,rfl⟩:=oz HZ.out;have hpn':pl<n:=HLT.out pl (zW hpl);obtain⟨m,hm⟩:=nm ((j+1)*(n-1-pl):Nat);have hmb:m<=1000:=by
        have h1:(j+1)*(n-1-pl)<=6*31:=Nat.mul_le_mul (by omega) (by omega);omega
       have HRI:Hid ((F.rowI (F.sysM wd ps) (k+1) j)[i]?=some ((F.gp m).n:Int)):=by
        show _=_
        rw[F.rowI_at (by omega)];have e:ps.getD i 0=pl:=by rw[xU,hpl];rfl
        unfold F.sysM;rw[if_pos (by rw[HU.out];exact hik),HWL.out,e,<-hm]
       have hm':((j:Int)+1)*((n:Int)-1-(pl:Int))=(m:Int):=by rw[hm,Int.natCast_mul,show (((j+1:Nat)):Int)=(j:Int)+1 by omega,show (((n-1-pl:Nat)):Int)=(n:Int)-1-(pl:Int) by omega]
       clear hm hpl HZ HPr;go_upto_region 15 with (first
        |(at_builtin;refine wpList_append_lies _ rfl _ _ _ rfl wo.heap.size 3 i0 _ 1 8 underlying22 hi0 hz0 hz1 hz2 rfl (by omega) (D A11 i c11) i (((F.rowI (F.sysM wd ps) (k+1) j).take i).map (Value.int .i64)) (by rfl) (World.ownsRow.alloc HO1.out _) ⟨x1.heap.size,0,none⟩ 1 1 [B C ((F.gp m).n:Int)] (by rfl) (by rfl) (World.news_of_block (cs:=#[B C ((F.gp m).n:Int)]) (t:=3) (fr:=(0,0)) (heap_alloc_new x1 _)) (by simp[Value.oneCell']) (by omega) (by unfold maxLen;omega) (by omega) (by simp;omega) (x1.heap.size+1) (by simp) ?_;intro ga cga x2 hown hgrow hat hltg)
        |(go_at_call 129;refine (yr m _ (by omega)).mono ?_;rintro e x1 ⟨rfl,hx1⟩;have HO1:=zZ (ao HO.out hx1);have HY1:=zZ (HY.out.trans hx1);have hs1:wo.heap.size<=x1.heap.size:=HY1.out.size;clear hx1))
       have HO2:Hid (x2.ownsRow wo.heap.size 3 1 (D (some ⟨ga,0,none⟩) (i+1) cga) (i+1) (((F.rowI (F.sysM wd ps) (k+1) j).take (i+1)).map (Value.int .i64))):=by
        show World.ownsRow _ _ _ _ _ _ _
        rw[ax HRI.out,yG];exact hown
       have HY2:=zZ (ab.grown (HY1.out.alloc (.cells #[B C ((F.gp m).n:Int)] 3)) hgrow (fun t ht=>(by have:=aq HO1.out t ht;omega)));obtain⟨ca1,ca2⟩:=lG hown;clear hown hgrow hat hltg HO1 HY1 HO HY;go_wp2_with fail;go_roundw
       case rel=>exact⟨i+1,some ⟨ga,0,none⟩,cga,rfl,by go_num,by omega,ca1,ca2,HO2.out,HY2.out⟩
       case measure=>simp[intOf];omega
      ·obtain rfl:i=k:=by omega
       have HIG:Hid (ak (G+1) wr (D (some ⟨G,0,none⟩) n n) (wI wd)):=by have h:=mU (base:=G) ((HX.out.trans HY.out).blk HG1.out) HWL.out (zX _) (by omega);exact ak.of_own' (e:=3) h (by simp[Value.ownBlock]) (jQ _) (by rw[aT,HWL.out];omega)
       have HRK:Hid ((F.rowI (F.sysM wd ps) (i+1) j)[i]?=some ((F.ev (F.gp (j+1)) wd).n:Int)):=by
        show _=_
        rw[F.rowI_at (by omega)];unfold F.sysM;rw[if_neg (by rw[HU.out];omega)]
       obtain⟨us,hus1,hus2⟩:=HM.out.own;rw[qm]at hus1 hus2;have HUS:=zZ hus2;clear hus2 hus1;generalize hsv:F.ev (F.gp (j+1)) wd=sv at HRK;have hws:W1.heap.size<=wo.heap.size:=HX.out.size;go_upto_region 11 with (first
        |(at_builtin;refine wpList_append_lies _ rfl _ _ _ rfl W1.heap.size 22 iS _ 1 24 underlying59 hiS hy0 hy1 hy2 rfl (by omega) (D A9 j c9) j us (by rfl) (World.ownsRow.alloc HU2.out _) ⟨x2.heap.size,0,none⟩ 1 1 [D (some ⟨ga,0,none⟩) (i+1) cga] (by rfl) (by rfl) (World.news_of_block (cs:=#[D (some ⟨ga,0,none⟩) (i+1) cga]) (t:=22) (fr:=(0,0)) (heap_alloc_new x2 _)) (by simp[Value.oneCell']) (by omega) (by unfold maxLen;omega) (by omega) (by simp;omega) (x2.heap.size+1) (by simp) ?_;intro gr cgr x3 hown3 hgrow3 hat3 hltg3)
        |(at_builtin;refine wpList_append_lies _ rfl _ _ _ rfl wo.heap.size 3 i0 _ 1 8 underlying22 hi0 hz0 hz1 hz2 rfl (by omega) (D A11 i c11) i (((F.rowI (F.sysM wd ps) (i+1) j).take i).map (Value.int .i64)) (by rfl) (World.ownsRow.alloc HO1.out _) ⟨x1.heap.size,0,none⟩ 1 1 [B C (sv.n:Int)] (by rfl) (by rfl) (World.news_of_block (cs:=#[B C (sv.n:Int)]) (t:=3) (fr:=(0,0)) (heap_alloc_new x1 _)) (by simp[Value.oneCell']) (by omega) (by unfold maxLen;omega) (by omega) (by simp;omega) (x1.heap.size+1) (by simp) ?_;intro ga cga x2 hown hgrow hat hltg;have HO2:Hid (x2.ownsRow wo.heap.size 3 1 (D (some ⟨ga,0,none⟩) (i+1) cga) (i+1) ((F.rowI (F.sysM wd ps) (i+1) j).map (Value.int .i64))):=(by have h:=Il HRK.out hown;rw[xV (by rw[F.rowI_len];exact zX _)]at h;exact h);have HY2:=zZ (ab.grown (HY1.out.alloc (.cells #[B C (sv.n:Int)] 3)) hgrow (fun t ht=>(by have:=aq HO1.out t ht;omega)));obtain⟨ca1,ca2⟩:=lG hown;have HU2:=zZ (ao HUS.out HY2.out);have hs2:wo.heap.size<=x2.heap.size:=HY2.out.size;clear hown hgrow hat hltg HO1 HY1)
        |(go_at_call 130;refine (Fh _ wd j _ HIG.out (by omega)).mono ?_;rw[hsv];rintro e x1 ⟨rfl,hx1⟩;have HO1:=zZ (ao HO.out hx1);have HY1:=zZ (HY.out.trans hx1);have hs1:wo.heap.size<=x1.heap.size:=HY1.out.size;clear hx1))
       have hE3:=(zE x2).alloc (.cells #[D (some ⟨ga,0,none⟩) (i+1) cga] 22);have HM3:Hid (lT W1.heap.size 22 3 x3 (D (some ⟨gr,0,none⟩) (j+1) cgr) ((List.range (j+1)).map (F.rowI (F.sysM wd ps) (i+1)))):=by
        show lT _ _ _ _ _ _
        rw[xP,yG];refine HM.out.push (HY2.out.trans hE3) hws (u:=D (some ⟨ga,0,none⟩) (i+1) cga) (by rw[F.rowI_len];exact ao HO2.out hE3) (by decide) (by rw[qm];exact HUS.out) hgrow3 (by rw[qm];exact hown3)
       have HX3:=zZ (ab.grown ((HX.out.trans HY2.out).trans hE3) hgrow3 (fun t ht=>(by have:=aq HUS.out t ht;omega)));obtain⟨cr1,cr2⟩:=lG hown3;clear hown3 hgrow3 hat3 hltg3 hE3 HO2 HY2 HU2 HUS HM HX HY HO HIG HRK hsv;go_wp2_with fail;go_roundw
       case rel=>exact⟨j+1,some ⟨gr,0,none⟩,cgr,rfl,by go_num,by omega,cr1,cr2,HM3.out,HX3.out⟩
       case measure=>simp[intOf];omega
    ·obtain rfl:j=6:=by omega
     rw[show (((6:Nat):Int)+1)=7 from rfl];obtain⟨g,rfl⟩:∃g,A9=some ⟨g,0,none⟩:=by
      obtain⟨us,e1,e2⟩:=HM.out.own;rw[qm]at e1 e2;rcases e2.2 with ⟨e,h0⟩|⟨g',cap',cur,e,_⟩
      ·omega
      ·injection e with e1;exact⟨g',e1⟩
     have HMW:Hid (dQ W1.heap.size g 22 3 wr (F.sysM wd ps) (k+1)):=by have h:=HM.out;rw[Hf]at h;exact h.matW (by decide) (by omega)
     have HIND:Hid (∀X,F.Sol (F.sysM wd ps) X (k+1)->X k=0->∀c,c<k->X c=0):=by have h:=@F.sys_ind wd ps (by rw[HWL.out];exact hn) HD.out (by rw[HWL.out];exact HLT.out) (by rw[HU.out];exact hu6);rw[HU.out]at h;exact h
     obtain⟨W2,hW2⟩:=nm (wr:World);subst hW2;clear HM hj hj6 hj1;generalize hB:W1.heap.size=base at *
     generalize hMd:F.sysM wd ps=M at *
     go_wp2_with fail;go_loopw [13] (fun s13 wr=>∃(j:Nat),s13=B C (j:Int)/\j<=k/\Hid (∃N,dQ base g 22 3 wr N (k+1)/\F.Unit6 N j/\(∀X,F.Sol N X (k+1)↔F.Sol M X (k+1))/\Below base W2 wr)) (fun i _=>k-(intOf i).toNat)
     case atStart=>exact⟨0,rfl,by omega,M,HMW.out,fun r c _ hc=>by omega,fun X=>Iff.rfl,Below.refl _ _⟩
     case round =>
      clear HMW;obtain⟨j,rfl,hj,HK⟩:=hrel;obtain⟨N,m1,m2,m3,m4⟩:=HK.out;have H1:=zZ m1;have H2:=zZ m2;have H3:=zZ m3;have H4:=zZ m4;clear m1 m2 m3 m4 HK;by_cases hjk:j<k
      ·obtain⟨wo,rfl⟩:=nm (wr:World);have HPV0:Hid (∃p,j<=p/\p<6/\N p j≠0):=F.pivot_ex hjk hu6 H2.out (fun X hX h0=>HIND.out X ((H3.out X).1 hX) h0);go_wp2_with fail;go_loopw [14] (fun s14 wr=>∃(p:Nat),s14=B C (p:Int)/\j<=p/\p<6/\Hid (∀q,j<=q->q<p->N q j=0)/\wr=wo) (fun i _=>6-(intOf i).toNat)
       case atStart=>exact⟨j,rfl,by omega,by omega,fun q h1 h2=>by omega,rfl⟩
       case round =>
        obtain⟨p,rfl,hjp,hp6,HQ,rfl⟩:=hrel;obtain⟨b1,cu1,hc0,hcu1,hcu2,-,-,hce,-,-⟩:=H1.out.at_ hp6;have c1:=hce j (by omega);clear hce;by_cases hz:N p j=0
        ·have hz':(((N p j).n:Int)==0)=true:=by rw[hz];rfl
         have HZ:=zZ hz;clear hz;go_wp2_with fail;go_roundw
         case rel =>
          obtain⟨p',a1,a2,a3⟩:=HPV0.out;have hnew:∀q,j<=q->q<p+1->N q j=0:=fun q h1 h2=>by
           by_cases e:q=p
           ·subst e;exact HZ.out
           ·exact HQ.out q h1 (by omega)
          have:p+1<=p':=by
           rcases zU p' (p+1) with hlt|hge
           ·exact absurd (hnew p' a1 hlt) a3
           ·exact hge
          exact⟨p+1,by go_num,by omega,by omega,hnew,trivial⟩
         case measure=>simp[intOf];omega
        ·have hz':(((N p j).n:Int)==0)=false:=by rw[lk];simp[hz]
         have HZ:=zZ hz;clear hz;go_upto_region 26 with (fail)
         obtain⟨bk,ck,bp,cpp,s1,s2,s3,s4,hsw⟩:=H1.out.swap (k:=j) (p:=p) (by omega) hp6;have HSW:=zZ hsw;clear hsw hc0 c1;have s5:(wr.setCell ⟨g,j,none⟩ (D (some ⟨bp,0,none⟩) (k+1) cpp)).cell? ⟨g,p,none⟩=some (D (some ⟨bp,0,none⟩) (k+1) cpp):=by
          by_cases e:p=j
          ·subst e;exact World.cell?_setCell_same _ _ _ s2
          ·rw[World.cell?_setCell_other _ _ _ _ (fun h=>e (by injection h with _ h2;exact h2.symm))];exact s2
         go_upto_region 29 with (fail)
         have hM1:=HSW.out wr (zE _);have HM1:=zZ hM1.1;have HB1:=zZ (xD H4.out hM1.2);clear hM1 HSW s1 s2 s3 s4 s5;generalize ((wr.setCell ⟨g,j,none⟩ (D (some ⟨bp,0,none⟩) (k+1) cpp)).setCell ⟨g,p,none⟩ (D (some ⟨bk,0,none⟩) (k+1) ck))=X1 at *
         have HNK:Hid (F.swapM N j p j j=N p j):=by show _=_;unfold F.swapM;rw[if_pos rfl]
         generalize hM1:F.swapM N j p=M1 at *
         have HM1d:=zZ hM1;clear hM1 H1 H4;obtain⟨b2,cu2,h10,h11,h12,-,-,h13,-,-⟩:=HM1.out.at_ (r:=j) (by omega);have h14:=h13 j (by omega);rw[HNK.out]at h14;clear h13;generalize hpv:N p j=pv at *
         have HPV:=zZ hpv;clear hpv;go_upto_region 30 with (go_at_call 131;refine (Cm pv _).mono ?_;rintro e x1 ⟨rfl,hx1⟩;replace hx1:=hx1.symm;subst hx1)
         clear h10 h14 h11 h12;go_wp2_with fail;go_loopw [17] (fun s17 wr=>∃(c:Nat),s17=B C (c:Int)/\c<=k+1/\Hid (dQ base g 22 3 wr (F.scaleTo M1 j pv.inv c) (k+1)/\Below base W2 wr)) (fun i _=>k+1-(intOf i).toNat)
         case atStart=>exact⟨0,rfl,by omega,by rw[F.scaleTo_zero];exact HM1.out,HB1.out⟩
         case round =>
          clear HM1 HB1;obtain⟨c,rfl,hc,HC⟩:=hrel;obtain⟨b2,cu2,a0,a1,a2,-,-,a3,a4,a5⟩:=HC.out.1.at_ (r:=j) (by omega);by_cases hcu:c<k+1
          ·have a6:=a3 c (by omega);have a7:=a4 c;have HPUT:=zZ a5;clear a3 a4 a5;have hv:F.scaleTo M1 j pv.inv c j c=M1 j c:=by unfold F.scaleTo;rw[if_neg (by omega)]
           rw[hv]at a6;clear hv;have hS:wr.drew.cell? ⟨g,j,none⟩=some (D (some ⟨b2,0,none⟩) (k+1) cu2)/\wr.drew.cell? ⟨b2,c,none⟩=some (B C ((M1 j c).n:Int)):=⟨a0,a6⟩
           replace hS:=zZ hS;have f1:(0:Int)<=(c:Int):=xT _;have f2:(c:Int)<(k:Int)+1:=by omega
           have f3:(0:Int)<=(j:Int):=xT _;have f4:(j:Int)<6:=by omega
           go_upto_region 33 with (fail)
           refine zR 15 (fun w'=>w'.cell? ⟨g,j,none⟩=some (D (some ⟨b2,0,none⟩) (k+1) cu2)/\w'.cell? ⟨b2,c,none⟩=some (B C ((M1 j c).n:Int))) ?_;refine zS 13 [(0,132),(1,133),(2,134),(3,135),(4,136),(5,137),(6,138),(7,139),(8,140),(9,141),(10,142),(11,143),(12,144)] hS.out ?_;iterate 13 refine zT ?_
           refine zN (zO 13 (fun K hK=>?_));go_simp;refine (CB (M1 j c) pv.inv _).mono ?_;rintro e x1 ⟨rfl,hx1⟩;have HX1:Hid (ab wr x1):=by rw[hx1];exact (zE wr).drew
           clear hx1;replace a0:=HX1.out.cell a0;replace a6:=HX1.out.cell a6;replace hS:=zZ (yJ a0 a6);have hfz:=(HC.out.1.ext HX1.out).frozAt (r:=j) (by omega) a0 c;refine hK.out _ _ (fun _=>hS.out) ?_;clear hK K;try simp only[kA]
           refine zS 1 [(14,146)] hS.out ?_;refine zT ?_;refine zN (zO 15 (fun K hK=>?_));go_simp;refine hK.out _ _ (fun h=>absurd rfl h) ?_;clear hK K;refine zD ?_;have hP:=HPUT.out x1 c (M1 j c*pv.inv) HX1.out;rw[F.scaleTo_succ]at hP;have HP1:=zZ hP.1;have HP2:=zZ (xD HC.out.2 hP.2);clear hP HPUT hS a0 a6 a7 hfz;go_wp2_with fail;go_roundw
           case rel=>exact⟨c+1,by go_num,by omega,HP1.out,HP2.out⟩
           case measure=>simp[intOf];omega
          ·have hce:c=k+1:=by omega
           clear a3 a4 a5;rw[hce]at HC;clear hce;have HM2:Hid (dQ base g 22 3 wr (F.scaleM M1 j pv.inv) (k+1)):=HC.out.1.congr fun r c _ hc=>by
            unfold F.scaleTo F.scaleM;by_cases e:r=j
            ·rw[if_pos ⟨e,hc⟩,if_pos e]
            ·rw[if_neg (fun h=>e h.1),if_neg e]
           have HB2:=zZ HC.out.2;clear HC;have HSTEP:Hid (F.redM (F.scaleM M1 j pv.inv) j=F.stepM N j p):=by show _=_;rw[<-HM1d.out,<-HPV.out];rfl
           generalize F.scaleM M1 j pv.inv=M2 at *
           clear HM1d HNK;go_upto_region 34 with (fail)
           clear a0 a1 a2;go_wp2_with fail;go_loopw [18] (fun s18 wr=>∃(r:Nat),s18=B C (r:Int)/\r<=6/\Hid (dQ base g 22 3 wr (F.redTo M2 j r 0) (k+1)/\Below base W2 wr)) (fun i _=>6-(intOf i).toNat)
           case atStart=>exact⟨0,rfl,by omega,by rw[F.redTo_zero];exact HM2.out,HB2.out⟩
           case round =>
            clear HM2 HB2;obtain⟨r,rfl,hr,HR⟩:=hrel;by_cases hr6:r<6
            ·obtain⟨b2,cu2,a0,a1,a2,-,-,a3,-,-⟩:=HR.out.1.at_ (r:=r) hr6;have hd3:decide ((r:Int)<6)=true:=by simp;omega
             have a6:=a3 j (by omega);have hv:F.redTo M2 j r 0 r j=M2 r j:=by unfold F.redTo;rw[if_neg (by omega)]
             rw[hv]at a6;clear a3 hv;obtain⟨wq,rfl⟩:=nm (wr:World);go_upto_region 38 with (fail)
             clear a0 a1 a2 a6;go_wp2_with fail;go_loopw [20] (fun s20 wr=>∃(c:Nat),s20=B C (c:Int)/\c<=k+1/\Hid (dQ base g 22 3 wr (F.redTo M2 j r c) (k+1)/\Below base W2 wr)) (fun i _=>k+1-(intOf i).toNat)
             case atStart=>exact⟨0,rfl,by omega,HR.out.1,HR.out.2⟩
             case round =>
              clear HR;obtain⟨c,rfl,hc,HC⟩:=hrel;obtain⟨b3,cu3,d0,d1,d2,-,-,d3,-,-⟩:=HC.out.1.at_ (r:=j) (by omega);by_cases hrk:r=j
              ·have HRK:=zZ hrk;have q1:((r:Int)!=(j:Int))=false:=by simp[hrk]
               clear hrk d3;rcases zU c (k+1) with hcu|hcu;all_goals
                go_wp2_with fail;go_roundw
                case rel =>
                 refine⟨r+1,by go_num,by omega,HC.out.1.congr fun r' c' h1 h2=>?_,HC.out.2⟩;unfold F.redTo;have:=HRK.out;by_cases e:r'≠j/\(r'<r\/r'=r/\c'<c)
                 ·rw[if_pos e,if_pos ⟨e.1,by omega⟩]
                 ·rw[if_neg e,if_neg (fun h=>e ⟨h.1,by omega⟩)]
                case measure=>simp[intOf];omega
              have q1:((r:Int)!=(j:Int))=true:=by simp;omega
              have HRK:=zZ hrk;clear hrk;by_cases hcu:c<k+1
              ·obtain⟨b2,cu2,a0,a1,a2,-,-,a3,a4,a5⟩:=HC.out.1.at_ (r:=r) hr6;have a6:=a3 c (by omega);have d6:=d3 c (by omega);have HPUT:=zZ a5;have hv:F.redTo M2 j r c r c=M2 r c:=by unfold F.redTo;rw[if_neg (by omega)]
               have hv2:F.redTo M2 j r c j c=M2 j c:=by unfold F.redTo;rw[if_neg (by omega)]
               rw[hv]at a6;rw[hv2]at d6;clear a3 a4 a5 d3 hv hv2;have hS:wr.drew.cell? ⟨g,r,none⟩=some (D (some ⟨b2,0,none⟩) (k+1) cu2)/\wr.drew.cell? ⟨b2,c,none⟩=some (B C ((M2 r c).n:Int))/\wr.drew.cell? ⟨g,j,none⟩=some (D (some ⟨b3,0,none⟩) (k+1) cu3)/\wr.drew.cell? ⟨b3,c,none⟩=some (B C ((M2 j c).n:Int)):=⟨a0,a6,d0,d6⟩
               replace hS:=zZ hS;have f1:(0:Int)<=(c:Int):=xT _;have f2:(c:Int)<(k:Int)+1:=by omega
               have f3:(0:Int)<=(r:Int):=xT _;have f4:(r:Int)<6:=by omega
               have f5:(0:Int)<=(j:Int):=xT _;have f6:(j:Int)<6:=by omega
               go_upto_region 41 with (fail)
               refine zR 18 (fun w'=>w'.cell? ⟨g,r,none⟩=some (D (some ⟨b2,0,none⟩) (k+1) cu2)/\w'.cell? ⟨b2,c,none⟩=some (B C ((M2 r c).n:Int))/\w'.cell? ⟨g,j,none⟩=some (D (some ⟨b3,0,none⟩) (k+1) cu3)/\w'.cell? ⟨b3,c,none⟩=some (B C ((M2 j c).n:Int))) ?_;refine zS 15 [(0,174),(1,175),(2,176),(3,177),(4,178),(5,179),(6,180),(7,181),(8,182),(9,183),(10,184),(11,185),(12,186),(13,187),(14,188)] hS.out ?_;iterate 15 refine zT ?_
               refine zN (zO 15 (fun K hK=>?_));go_simp;refine (CB (M2 j c) (M2 r j) _).mono ?_;rw[F.mul_comm (M2 j c) (M2 r j)];rintro e x1 ⟨rfl,hx1⟩;have HX1:Hid (ab wr x1):=by rw[hx1];exact (zE wr).drew
               clear hx1;replace a0:=HX1.out.cell a0;replace a6:=HX1.out.cell a6;replace d0:=HX1.out.cell d0;replace d6:=HX1.out.cell d6;replace hS:=zZ (yJ a0 (yJ a6 (yJ d0 d6)));have hfz:=(HC.out.1.ext HX1.out).frozAt (r:=r) hr6 a0 c;refine hK.out _ _ (fun _=>hS.out) ?_;clear hK K;try simp only[kA]
               refine zS 2 [(16,190),(17,191)] hS.out ?_;iterate 2 refine zT ?_
               refine zN (zO 18 (fun K hK=>?_));go_simp;refine hK.out _ _ (fun h=>absurd rfl h) ?_;clear hK K;refine zD ?_;rw[pD];have hP:=HPUT.out x1 c (M2 r c+M2 r j*M2 j c) HX1.out;rw[F.redTo_succ _ _ _ _ HRK.out]at hP;have HP1:=zZ hP.1;have HP2:=zZ (xD HC.out.2 hP.2);clear hP HPUT hS a0 a6 d0 d6 hfz;go_wp2_with fail;go_roundw
               case rel=>exact⟨c+1,by go_num,by omega,HP1.out,HP2.out⟩
               case measure=>simp[intOf];omega
              ·obtain rfl:c=k+1:=by omega
               clear d3;go_wp2_with fail;go_roundw
               case rel =>
                refine⟨r+1,by go_num,by omega,HC.out.1.congr fun r' c' h1 h2=>?_,HC.out.2⟩;unfold F.redTo;by_cases e:r'≠j/\(r'<r\/r'=r/\c'<k+1)
                ·rw[if_pos e,if_pos ⟨e.1,by omega⟩]
                ·rw[if_neg e,if_neg (fun h=>e ⟨h.1,by omega⟩)]
               case measure=>simp[intOf];omega
            ·obtain rfl:r=6:=by omega
             go_wp2_with fail;go_roundw
             case rel =>
              refine⟨j+1,by go_num,by omega,F.stepM N j p,?_,F.unit_step H2.out (by omega) hp6 hjp (by rw[HPV.out];exact HZ.out),fun X=>(F.sol_step (by omega) hp6 (by rw[HPV.out];exact HZ.out)).trans (H3.out X),HR.out.2⟩;rw[<-HSTEP.out];refine HR.out.1.congr fun r' c' h1 _=>?_;unfold F.redTo F.redM;by_cases e:r'=j
              ·rw[if_neg (fun h=>h.1 e),if_pos e]
              ·rw[if_pos ⟨e,.inl h1⟩,if_neg e]
             case measure=>simp[intOf];omega
      ·obtain rfl:k=j:=by omega
       have HM1:=H1;have HUN:=H2;have HSO:=H3;have HEx:Hid (ab w wr):=(HE1.out.trans HX.out).below_trans (by rw[HGB.out];omega) H4.out;have HGx:Hid (wr.heap[G]?=some (.cells ((wI (F.addAt wd [] [])).map (Value.int .i64)).toArray 3 (0,0))):=(H4.out.block G hGW).trans (HX.out.blk HG1.out);clear H1 H2 H3 H4 HIND hj hjk;obtain⟨W3,hW3⟩:=nm (wr:World);subst hW3;go_wp2_with fail;go_loopw [21] (fun s21 wr=>∃(i:Nat),s21=B C (i:Int)/\i<=k/\Hid (wr.heap[G]?=some (.cells ((wI (F.addAt wd (ps.take i) ((List.range i).map fun c=>N c k))).map (Value.int .i64)).toArray 3 (0,0))/\ab w wr/\dQ base g 22 3 wr N (k+1))) (fun i _=>k-(intOf i).toNat)
       case atStart=>exact⟨0,rfl,by omega,HGx.out,HEx.out,HM1.out⟩
       case round =>
        clear HGx HEx HM1;obtain⟨i,rfl,hi,HK⟩:=hrel;have HGr:=zZ HK.out.1;have HEr:=zZ HK.out.2.1;have HMr:=zZ HK.out.2.2;clear HK;by_cases hik:i<k
        ·have HPr:=zZ (HP.out.ext HEr.out);obtain⟨bp,op,z,rfl,-⟩:=HPr.out.at_ hik;obtain⟨z,hcz,HZ,-⟩:=HPr.out.cell_ hik;obtain⟨pl,hpl,rfl⟩:=oz HZ.out;have hpn':pl<n:=HLT.out pl (zW hpl);obtain⟨b2,cu2,a0,a1,a2,-,-,a3,-,-⟩:=HMr.out.at_ (r:=i) (by omega);have a6:=a3 k (by omega);clear a3;have hfz:=ae HGr.out pl;obtain⟨y,hy⟩:∃y,(wI (F.addAt wd (ps.take i) ((List.range i).map fun c=>N c k)))[pl]?=some y:=⟨_,zV (by rw[aT,F.addAt_len,HWL.out];exact hpn')⟩
         have hcy:wr.cell? ⟨G,pl,none⟩=some (B C y):=ac HGr.out (by rw[List.getElem?_toArray,zP,hy];rfl);have HG4:=zZ (DR (i:=pl) HGr.out ((N i k).n:Int));have hset:(wI (F.addAt wd (ps.take i) ((List.range i).map fun c=>N c k))).set pl ((N i k).n:Int)=wI (F.addAt wd (ps.take (i+1)) ((List.range (i+1)).map fun c=>N c k)):=by
          rw[show ps.take (i+1)=ps.take i++[pl] from ax hpl,xP,yG];show _=wI (F.addAt wd (ps.take i++[pl]) (_++[N i k]))
          rw[EM (by rw[yW,HU.out,zJ,wQ];omega) (fun hm=>?_) (HW0.out pl (zW hpl))]
          ·unfold wI;rw[wX]
          ·obtain⟨q,hq1,hq2⟩:=List.mem_iff_getElem?.1 hm |>.imp fun q h=>(show q<i/\ps[q]?=some pl from by
            rw[yB]at h;split at h
            ·exact⟨by assumption,h⟩
            ·cases h)
           have:=(List.getElem?_inj (by rw[HU.out];omega) HD.out).1 (hq2.trans hpl.symm);omega
         rw[hset]at HG4;have HE4:=zZ (HEr.out.setCell (p:=⟨G,pl,none⟩) (by rw[HGB.out];exact zX _) (B C ((N i k).n:Int)));have HM4:Hid (dQ base g 22 3 (wr.setCell ⟨G,pl,none⟩ (B C ((N i k).n:Int))) N (k+1)):=HMr.out.xt ((XT.refl G wr).setCell rfl _) hGW;have hS:wr.drew.cell? ⟨bp,op+i,none⟩=some (B C (pl:Int))/\wr.drew.cell? ⟨g,i,none⟩=some (D (some ⟨b2,0,none⟩) (k+1) cu2)/\wr.drew.cell? ⟨b2,k,none⟩=some (B C ((N i k).n:Int)):=⟨hcz,a0,a6⟩
         replace hS:=zZ hS;clear hset hy hpl HZ HPr;have f1:(0:Int)<=(i:Int):=xT _;have f2:(i:Int)<(k:Int):=by omega
         have f4:(i:Int)<6:=by omega
         have f5:(0:Int)<=(pl:Int):=xT _;have f6:(pl:Int)<(n:Int):=by omega
         have f7:(0:Int)<=(k:Int):=xT _;have f8:(k:Int)<(k:Int)+1:=by omega
         go_upto_region 45 with (fail)
         refine zR 14 (fun w'=>w'.cell? ⟨bp,op+i,none⟩=some (B C (pl:Int))/\w'.cell? ⟨g,i,none⟩=some (D (some ⟨b2,0,none⟩) (k+1) cu2)/\w'.cell? ⟨b2,k,none⟩=some (B C ((N i k).n:Int))) ?_;refine zS 14 [(0,198),(1,199),(2,200),(3,201),(4,202),(5,203),(6,204),(7,205),(8,206),(9,207),(10,208),(11,209),(12,210),(13,211)] hS.out ?_;iterate 14 refine zT ?_
         refine zN (zO 14 (fun K hK=>?_));go_simp;refine hK.out _ _ (fun h=>absurd rfl h) ?_;clear hK K;refine zD ?_;clear hS a0 a1 a2 a6 hcz hcy hfz;go_wp2_with fail;go_roundw
         case rel=>exact⟨i+1,by go_num,by omega,HG4.out,HE4.out.drew,HM4.out.ext (zE _).drew⟩
         case measure=>simp[intOf];omega
        ·obtain rfl:k=i:=by omega
         have HCW:Hid (ps.take k=ps):=xV (by rw[HU.out];exact zX _);have HIG:Hid (ak (G+1) wr (D (some ⟨G,0,none⟩) n n) (wI (F.addAt wd ps ((List.range k).map fun c=>N c k)))):=by have h:=HGr.out;rw[HCW.out]at h;have h:=mU (base:=G) (n:=n) h (by rw[F.addAt_len];exact HWL.out) (zX _) (by omega);exact ak.of_own' (e:=3) h (by simp[Value.ownBlock]) (jQ _) (by rw[aT,F.addAt_len,HWL.out];omega)
         go_wp2_with fail;refine (sg _ _ _ HIG.out).mono ?_;rintro e x1 ⟨rfl,hx1⟩;go_wp2_with fail;go_ret2
         have h:=@F.sys_end wd ps N (by rw[HWL.out];exact hn) HD.out (by rw[HWL.out];exact HLT.out) (by rw[HU.out];exact hu6);rw[HU.out,hMd]at h;refine⟨G,n,F.addAt wd ps ((List.range k).map fun c=>N c k),rfl,zX _,by omega,by rw[F.addAt_len];exact HWL.out,?_,HEr.out.trans hx1,F.Off.addAt _ _ _,fun c ho hc=>((h HUN.out HSO.out).2 c ho hc).2⟩;have h:=HGr.out;rw[HCW.out]at h;exact mU (hx1.blk h) (by rw[F.addAt_len];exact HWL.out) (by rw[HGB.out];exact zX _) (by omega)
theorem nH{a c:List F}{ps:List Nat}:F.Off (xl 0 a ps) c ps↔F.Off a c ps:=by unfold F.Off;rw[uj];refine and_congr Iff.rfl (forall_congr' fun i=>imp_congr_right fun hi=>?_);rw[vt,if_neg (fun h=>hi h.2)]
def K4(w:World)(l:List Int)(e:Ending)(w':World):Prop :=
 ∃(A:Option Addr) (m c:Nat) (d:List F) (er k:Int),e=.returned (.tuple #[D A m c,B C er,B C k])/\ak w'.heap.size w' (D A m c) (wI d)/\ab w w' /\
  (cD (-1) l=false->d=[]/\er=0/\k=2) /\
  (cD (-1) l=true->(∃(cw:List F) (n:Nat),pn l cw n/\d=cw.take (l.length-6)/\er=n/\k=0)\/((∀cw n,¬pn l cw n)/\d=[]/\er=0/\k=25))
theorem K8{q:Nat}(v:Value)(l:List Int)(w:World)(hT:cK w)(hI:ak q w v l):Calls prog 101 #[v] w (K4 w l) :=
 (Ck v l w hT hI).mono fun e w' ⟨A,m,c,d,er,k,he,hi,hx,h⟩=>⟨A,m,c,d,er,k,he,hi.re (zX _),hx,h⟩
end Go.Proofs.YtpaidaphacoblaaGreatDoor

