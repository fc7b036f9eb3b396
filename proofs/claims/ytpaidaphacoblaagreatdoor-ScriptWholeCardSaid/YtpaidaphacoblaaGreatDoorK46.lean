import Derived.Test.YtpaidaphacoblaaGreatDoorK45
set_option linter.all false
set_option maxRecDepth 100000
set_option maxHeartbeats 0
namespace Go.Proofs.YtpaidaphacoblaaGreatDoor
open Go.Value renaming int→C,slice→E
open Go.IntKind renaming i64→D
open Go.RowKit Go.Lib
variable {ks:List Nat} {cl:List Int} {i k m:Nat}
def pR:List Value->Nat×Bool->Prop:=fun cs g=>cs=[C D (g.1:Int),.bool g.2]
theorem Tryz.infoGrp:(Tryz.prog.info? 209).map (fun i=>(i.zero,i.size,i.bytes))=some (some (.agg #[C D 0,.bool false]),2,16):=by kernel_rfl
def G6(S:List bN)(cl:List Int)(base:Nat)(v:Value)(w':World):Prop :=
 ∃ks,ks.Perm (fU S S.length)/\(ks.Pairwise fun a b=>rZ S a b=true)/\ah base 209 2 pR w' v (bZ S cl ks)
theorem tB(S:List bN)(k:Nat):(fU S k).length<=k:=by unfold fU;exact yR (uP _ _) (by simp)
theorem CF(S:List bN)(k:Nat):fU S (k+1)=if dT (ef S k) then fU S k++[k] else fU S k:=by
 unfold fU;rw[xP,xM];cases h:dT (ef S k) with
 |true=>simp[h]
 |false=>simp[h]
theorem tw(S:List bN)(cl:List Int):∀ks:List Nat,(bZ S cl ks).length<=ks.length:=by
 intro ks;induction ks using ic with
 |h0=>simp[bZ]
 |h1 ks i ih =>
  rw[iK];unfold qA;split
  ·simp;omega
  ·split
   ·split
    ·simp;omega
    ·simp;have:=List.length_pos_iff.2 (show bZ S cl ks≠[] by intro e;simp_all);omega
   ·simp;omega
theorem Kl{S:List bN}(hn:ks.Nodup)(h:ks.Pairwise fun a b=>¬oD S b a<0):ks.Pairwise fun a b=>rZ S a b=true:=by
 refine (List.pairwise_and_iff.2 ⟨h,hn⟩).imp fun {a b} hab=>?_;rcases jM S b a with ⟨g,e⟩|⟨g,e⟩|⟨g,e⟩
 ·exact absurd e hab.1
 ·exact absurd g.symm hab.2
 ·exact g
theorem xy(S:List bN)(k:Nat):(fU S k).Nodup:=List.Nodup.sublist List.filter_sublist List.nodup_range
theorem tj{S:List bN}(hk:ks[k]?=some i)(h:(bZ S cl (ks.take k)).getLast?=none\/∃g,(bZ S cl (ks.take k)).getLast?=some g/\gu S g.1≠gu S i) :
  bZ S cl (ks.take (k+1))=bZ S cl (ks.take k)++[(i,false)]:=by
 rw[ax hk,iK];unfold qA;rcases h with h|⟨g,h,hn⟩
 ·rw[h]
 ·rw[h];simp only;rw[if_neg hn]
theorem Eu{S:List bN}{g:Nat×Bool}(hk:ks[k]?=some i)(h:(bZ S cl (ks.take k)).getLast?=some g)(hg:gu S g.1=gu S i)(he:ef S g.1=ef S i/\od cl g.1=od cl i) :
  bZ S cl (ks.take (k+1))=bZ S cl (ks.take k):=by
 rw[ax hk,iK];unfold qA;rw[h];simp only;rw[if_pos hg,if_pos he]
theorem sR{S:List bN}{g:Nat×Bool}(hk:ks[k]?=some i)(hm:(bZ S cl (ks.take k))[m]?=some g)(hl:(bZ S cl (ks.take k)).length=m+1)(hg:gu S g.1=gu S i)(he:¬(ef S g.1=ef S i/\od cl g.1=od cl i)) :
  bZ S cl (ks.take (k+1))=(bZ S cl (ks.take k)).set m (g.1,true):=by
 have h:(bZ S cl (ks.take k)).getLast?=some g:=by rw[List.getLast?_eq_getElem?,hl];simpa using hm
 rw[ax hk,iK];unfold qA;rw[h];simp only;rw[if_pos hg,if_neg he];obtain⟨F',hF⟩:=List.getLast?_eq_some_iff.1 h;rw[hF]at hl⊢;have:m=F'.length:=by simp at hl;omega
 subst this;rw[List.dropLast_concat];simp
theorem IJ{S:List bN}{g:Nat×Bool}(hp:ks.Pairwise fun a b=>rZ S a b=true)(hm:(bZ S cl ks)[m]?=some g):g.1∈ks :=
 ((KG (cl:=cl) ks hp).mem g (zW hm)).1
theorem Je{α:Type}{l:List α}{g:α}(hm:l[m]?=some g)(hl:l.length=m+1):l.getLast?=some g:=by rw[List.getLast?_eq_getElem?,hl];simpa using hm
theorem ig{w:World}{base e size n:Nat}{v:Value}{xs:List Value}(h:w.ownsRow base e size v n xs):∃A c,v=E A n c:=by
 rcases h.2 with ⟨e,h0⟩|⟨g,cap,cur,e,_⟩
 ·exact⟨none,0,by rw[e,h0]⟩
 ·exact⟨_,_,e⟩
theorem Cg(t s q t' s' q':Int)(w:World):Calls Tryz.prog 165 #[.agg #[C D t,C D s,C D q],.agg #[C D t',C D s',C D q']] w fun e w'=>e=.returned (C D (eR s q s' q'))/\ab w w' :=
 (sE t s q t' s' q' w).mono fun _ _ h=>⟨h.1,h.2.ext⟩
theorem DK{a b c d:Int}:(eR a b c d != 0)=!decide (a=c/\b=d):=by
 rcases cT a b c d with ⟨h,e⟩|⟨h,e⟩|⟨h,e⟩<;>rw[e]
 ·rw[decide_eq_false (by omega)];rfl
 ·rw[decide_eq_true h];rfl
 ·rw[decide_eq_false (by omega)];rfl
theorem Dc(v vc:Value)(S:List bN)(cl:List Int)(w:World){p q:Nat}(hs:iq p w v S)(hc:ak q w vc cl)(hl:cl.length=S.length)(hS:S.length<=100000) :
  Calls Tryz.prog 137 #[v,vc] w fun e w'=>(∃vF,e=.returned vF/\G6 S cl w.heap.size vF w')/\ab w w':=by
 obtain⟨A,n,c,rfl,hnc,hcc,hnn,HL⟩:=hs.open_;obtain⟨B,nb,cb,rfl,hnb,hcb,hmm,HLC⟩:=hc.open_;obtain rfl:nb=n:=by have:=HL.out;have:=HLC.out;omega
 have hn1:nb<=100000:=by have:=HL.out;omega
 have HS:Bx (iq p w (E A nb c) S):=⟨hs⟩
 have HC:Bx (ak q w (E B nb cb) cl):=⟨hc⟩
 have HLL:=zZ hl;clear hs hc hl hS;obtain⟨i0,hi0,hz0,hz1,hz2⟩:=info_parts Tryz.infoI;obtain⟨iC,hiC,hC0,hC1,hC2⟩:=info_parts Tryz.infoGrp;obtain⟨w1,hw1⟩:=nm ((w.alloc (.cells #[E A nb c] 168)):World);have HF:Bx (aA w w1 [(w.heap.size,#[E A nb c],168)]):=⟨by rw[hw1];exact (aA.start w).push _ _ rfl⟩
 obtain⟨b1,hb1⟩:=nm w1.heap.size;have hb1w:b1=w.heap.size+1:=by rw[hb1,hw1];simp
 go_enter Tryz.func137,Tryz.ntmps137
 go_upto_region 1 with (fail)
 rw[<-hw1];clear hw1;have z0:=(HF.out.at_ 0 rfl).c 0 rfl;go_wp2_with fail;clear z0;go_loopw [5,15] (fun s5 s15 wr=>∃(k m0:Nat) (A5:Option Addr) (c5:Nat),s5=E A5 m0 c5/\s15=C D k/\k<=nb/\m0<=100000/\Bx (aA w wr [(w.heap.size,#[E A nb c],168)]/\wr.ownsRow b1 3 1 (E A5 m0 c5) m0 ((fU S k).map nV))/\b1<=wr.heap.size) (fun _ k _=>nb-(intOf k).toNat)
 case atStart=>exact⟨0,0,none,0,rfl,rfl,by omega,by omega,⟨⟨HF.out,yZ _ _ _ _⟩⟩,by omega⟩
 case round =>
  obtain⟨k,m0,A5,c5,rfl,rfl,hk,hm0,HR,hbr⟩:=hrel;clear HF;by_cases hkn:k<nb
  ·obtain⟨bA,oA,_,_,rfl,-⟩:=HS.out.at_ hkn;obtain⟨t,s,q',HX,x0,x1,x2⟩:=iq.read HS.out HR.out.1.xt hkn;have HV:=zZ (CF S k);have HST:=zZ (mI HX.out);have hF2:=HR.out.1.ext ((zE _).alloc (.cells #[C D t,C D s,C D q'] 35));have hO2:=ao HR.out.2 ((zE _).alloc (.cells #[C D t,C D s,C D q'] 35));go_upto_region 5 with (fail)
   obtain⟨w2,hw2⟩:=nm ((wr.alloc (.cells #[C D t,C D s,C D q'] 35)):World);obtain⟨g,hg⟩:=nm wr.heap.size;have hB2:Bk w2 g #[C D t,C D s,C D q'] 35:=by rw[hw2,hg];exact Bk.new _ _ _
   have hbr2:b1<=w2.heap.size:=by rw[hw2];simp;omega
   rw[<-hw2]at hF2 hO2;rw[<-hw2,<-hg];clear hw2 hg x0 x1 x2 HR hbr;obtain⟨y0,y1,y2⟩:=(hB2).p3 rfl;have HF2:Bx (aA w w2 [(w.heap.size,#[E (some ⟨bA,oA,none⟩) nb c],168)]):=⟨hF2⟩
   have HO2:=zZ hO2;clear hF2 hO2 hB2;cases hb:dT ⟨t,s,q'⟩ with
   |false =>
    rw[HST.out,hb,if_neg (by simp)]at HV;go_wp2_with fail;refine (mT t s q' _).mono ?_;rintro e w3 ⟨rfl,hx3⟩;rw[hb];have HF3:=bx (HF2.out.ext hx3);have HO3:=zZ (ao HO2.out hx3);have hbr3:=yR hbr2 hx3.size;clear hx3 HF2 HO2 hb y0 y1 y2;go_wp2_with fail;go_roundw
    case rel=>exact⟨k+1,m0,A5,c5,rfl,by go_num,by omega,by omega,⟨⟨HF3.out,by rw[HV.out];exact HO3.out⟩⟩,hbr3⟩
    case measure=>simp[intOf];omega
   |true =>
    rw[HST.out,hb,if_pos rfl]at HV;go_wp2_with fail;refine (mT t s q' _).mono ?_;rintro e w3 ⟨rfl,hx3⟩;rw[hb];have HF3:=bx (HF2.out.ext hx3);have HO3:=zZ (ao HO2.out hx3);have hbr3:=yR hbr2 hx3.size;clear hx3 HF2 HO2 hb y0 y1 y2;go_wp2_with (at_builtin;refine aF _ rfl (.tmp 22) (.tmp 24) 22 rfl b1 3 i0 _ 8 Tryz.underlying22 hi0 hz0 hz1 hz2 rfl _ _ _ rfl (HO3.out.alloc _) _ _ rfl (by simp;rfl) rfl (by omega) (by omega) (by simp;omega) ?_;intro v7 w7 hown7 hg7);have hge:=fun kk h=>aq HO3.out kk h;have HF7:Bx (aA w w7 [(w.heap.size,#[E (some ⟨bA,oA,none⟩) nb c],168)]):=⟨(HF3.out.ext ((zE _).alloc _)).grown hg7 (fun kk x hx e=>by
     match kk,hx with
     |0,hx=>simp at hx;subst hx;have:=hge _ e;simp only at this;omega
     |kk+1,hx=>simp at hx) (fun kk e=>by have:=hge _ e;omega)⟩
    have hbr7:b1<=w7.heap.size:=by have:=hg7.size;simp at this;omega
    obtain⟨A7,c7,rfl⟩:=ig hown7;have HO7:=zZ hown7;have HVL:Hid (m0+1<=100000):=by have h1:=HO3.out.1;have h2:=tB S k;rw[zJ]at h1;show m0+1<=100000;omega
    clear hown7 hg7 HF3 HO3 hge;go_wp2_with fail;go_roundw
    case rel=>exact⟨k+1,m0+1,A7,c7,rfl,by go_num,by omega,by have:=HVL.out;omega,⟨⟨HF7.out,by rw[HV.out,yG];exact HO7.out⟩⟩,hbr7⟩
    case measure=>simp[intOf];omega
  ·obtain rfl:nb=k:=by omega
   have HF2:Bx (aA w wr [(w.heap.size,#[E A nb c],168)]):=⟨HR.out.1⟩
   have HLN:Hid (S.length=nb):=HL.out;have HO2:=zZ HR.out.2;have hml:(fU S nb).length=m0:=by have:=HO2.out.1;simpa using this
   have eg:∀args w,(callFunc 164 args).run Tryz.prog w=.ok (.enter 164 args) w:=enters_of Tryz.func164 (by kernel_rfl) rfl;have hsrt:=qX nb 164 #[.pointer (some ⟨w.heap.size,0,none⟩)] (oD S) (E A5 m0 c5) (fU S nb) b1 wr (by omega) (fun x hx=>(ov.1 hx).1)
    (fun x _=>by rw[nM,qn];simp) (fun x y z _ _ _ h1 h2=>(nM S x z).2 (tQ ((nM S x y).1 h1) ((nM S y z).1 h2))) (fun x y z _ _ _ h1 h2=>FX h1 h2) eg (by rw[hml];exact HO2.out)
    (fun w1 hg x y hx hy=>by
     have hge:=fun kk h=>aq HO2.out kk h;have F:=HF2.out.grown hg (fun kk z hz e=>by
      match kk,hz with
      |0,hz=>simp at hz;subst hz;have:=hge _ e;simp only at this;omega
      |kk+1,hz=>simp at hz) (fun kk e=>by have:=hge _ e;omega)
     exact F8 x y w.heap.size _ S w1 ((F.at_ 0 rfl).c 0 rfl) (HS.out.ext (oT.stab p) F.xt) (by have:=HLN.out;omega) (by have:=HLN.out;omega))
   have HML:=zZ hml;rw[hml]at hsrt;have HSRT:Bx _:=⟨hsrt⟩
   clear HR hml eg hsrt;go_wp2_with (go_at_call 138;refine HSRT.out.mono ?_;rintro e w3 ⟨rfl,ks,hp,hpw,hown,hg⟩);have hge:=fun kk h=>aq HO2.out kk h;have HF3:Bx (aA w w3 [(w.heap.size,#[E A nb c],168)]):=⟨HF2.out.grown hg (fun kk z hz e=>by
    match kk,hz with
    |0,hz=>simp at hz;subst hz;have:=hge _ e;simp only at this;omega
    |kk+1,hz=>simp at hz) (fun kk e=>by have:=hge _ e;omega)⟩
   have HKS:Bx (ks.Perm (fU S nb)/\ks.Pairwise fun a b=>rZ S a b=true):=⟨⟨hp,Kl (hp.nodup_iff.2 (xy S nb)) (hpw.imp fun h=>by omega)⟩⟩
   have HKM:Bx (∀x∈ks,x<nb):=⟨fun x hx=>(ov.1 (hp.mem_iff.1 hx)).1⟩
   have hkl:ks.length=m0:=by rw[hp.length_eq];exact HML.out
   have HKL:=zZ hkl;have HI3:Bx (ak 0 w3 (E A5 m0 c5) (ks.map fun x:Nat=>(x:Int))):=⟨ak.of_own (base:=b1) (e:=3) (n:=m0) (by rw[vY];exact hown) (by omega) (fun x hx=>by obtain⟨y,hy,rfl⟩:=zF.1 hx;have:=HKM.out y hy;constructor<;>omega) (by simp;omega)⟩
   clear hge hg hp hpw hown hkl HO2 HF2 HSRT HML hbr;go_wp2_with fail;go_loopw [8,32] (fun s8 s32 wr=>∃(k m:Nat) (A8:Option Addr) (c8:Nat),s8=E A8 m c8/\s32=C D k/\k<=m0/\Bx (ab w3 wr/\ah w3.heap.size 209 2 pR wr (E A8 m c8) (bZ S cl (ks.take k)))) (fun _ k _=>m0-(intOf k).toNat)
   case atStart=>exact⟨0,0,none,0,rfl,rfl,by omega,⟨⟨zE _,ah.nil⟩⟩⟩
   case round =>
    obtain⟨k,m,A8,c8,rfl,rfl,hk,HR⟩:=hrel;have HX3:Bx (ab w3 wr):=⟨HR.out.1⟩
    have HO:Bx (ah w3.heap.size 209 2 pR wr (E A8 m c8) (bZ S cl (ks.take k))):=⟨HR.out.2⟩
    have HLG:=zZ HO.out.len;clear HR;by_cases hkm:k<m0
    ·obtain⟨b5,o5,x,rfl,gk,HXk,-,-⟩:=(HI3.out.ext HX3.out).at_ hkm;obtain⟨i,HJ,hxi⟩:∃i:Nat,Hid (ks[k]?=some i)/\x=(i:Int):=by
      have:=HXk.out;rw[zP,yO]at this;obtain⟨j,h1,h2⟩:=this;exact⟨j,h1,h2.symm⟩
     subst hxi;have hin:i<nb:=HKM.out i (zW HJ.out);have hm1:m<=100000:=by have:=HLG.out;have:=tw S cl (ks.take k);simp at this;omega
     obtain⟨bA,oA,_,_,rfl,-⟩:=HS.out.at_ hin;obtain⟨t',s',q',HY,y0,y1,y2⟩:=iq.read HS.out (HF3.out.xt.trans HX3.out) hin;have hbx:=HX3.out.cell ((HF3.out.at_ 0 rfl).c 0 rfl);have HSI:=zZ (mI HY.out);clear HXk;rcases vE m with h0|h0
     ·have hw:IntKind.i64.wrap ((m:Int)-1)=-1:=by rw[yN _ (by omega)];omega
      have HNEW:=zZ (tj (S:=S) (cl:=cl) HJ.out (.inl (List.getLast?_eq_none_iff.2 (xZ (by have:=HLG.out;omega)))));replace h0:=zZ h0;go_upto_region 14 with (fail)
      clear hw;refine zQ 99 fun wd kS=>?_;refine zS 18 [(0,39),(1,40),(2,41),(3,42),(4,43),(5,44),(6,45),(7,46),(8,47),(9,48),(10,49),(11,50),(12,51),(13,52),(14,53),(15,54),(16,55),(17,56)] kS ?_;iterate 3 refine zT ?_
      iterate 14 (apply zK;exact⟨rfl,rfl⟩;simp only[kA];exact rfl)
      refine zT ?_;refine zN (zD ?_);clear y0 y1 y2 hbx gk;go_wp2_with (at_builtin;refine dq _ rfl (.tmp 57) (.tmp 60) 206 rfl w3.heap.size 209 iC _ 2 16 Tryz.underlying206 hiC hC0 hC1 hC2 rfl (by decide) pR _ _ rfl (HO.out.ext (kS.alloc _)) _ #[C D (i:Int),.bool false] _ ((i,false):Nat×Bool) rfl (heap_alloc_new _ _) rfl (by simp[Value.oneCell']) rfl (by have:=HLG.out;omega) (by omega) (by have:=HX3.out.size;have:=kS.size;simp;omega) ?_;intro v9 w9 hown9 hg9);obtain⟨A9,c9,h9⟩:=hown9.form;rw[show (bZ S cl (ks.take k)++[((i,false):Nat×Bool)]).length=m+1 by rw[yU,HLG.out];rfl]at h9;subst h9;have hX9:ab w3 w9:=(HX3.out.trans (kS.alloc _)).grown hg9 (fun kk e=>HO.out.ge kk e);have HO9:Bx (ab w3 w9/\ah w3.heap.size 209 2 pR w9 (E A9 (m+1) c9) (bZ S cl (ks.take (k+1)))):=⟨⟨hX9,by rw[HNEW.out];exact hown9⟩⟩
      clear hown9 hg9 hX9;go_wp2_with fail;go_roundw
      case rel=>exact⟨k+1,m+1,A9,c9,rfl,by go_num,by omega,HO9⟩
      case measure=>simp[intOf];omega
     ·obtain⟨m',hm'⟩:∃m',m'+1=m:=⟨m-1,by omega⟩
      have hmm:m'<m:=by omega
      have hw:IntKind.i64.wrap ((m:Int)-1)=(m':Int):=by rw[yN _ (by omega)];omega
      obtain⟨G,rfl,hG1,hG2,hfz⟩:=HO.out.lies h0;obtain⟨cs,⟨gi,gd⟩,-,hcl,hR,HG0⟩:=(HO.out.isS (p:=0) (R':=fun _=>pR) (by decide) (by have:=HF3.out.xt.size;have:=(HF3.out.at_ 0 rfl).lt;omega) (fun _ _ h=>h)).cell_ hmm;have f0:=hcl 0 (C D (gi:Int)) (by rw[hR];rfl);have f1:=hcl 1 (.bool gd) (by rw[hR];rfl);rw[yV,yQ]at f0;rw[yV]at f1;have hgi:gi<nb:=HKM.out gi (uI (IJ (HKS.out.2.sublist (List.take_sublist _ _)) HG0.out));have HLAST:=zZ (Je HG0.out (by rw[HLG.out,hm']));obtain⟨t,s,q0,HX,x0,x1,x2⟩:=iq.read HS.out (HF3.out.xt.trans HX3.out) hgi;have HSG:=zZ (mI HX.out);have hmm2:m'+1<=m:=by omega
      have HMM:=zZ hm';have hng:decide ((m':Int)<0)=false:=decide_eq_false (by omega);clear hcl hR hm';go_upto_region 14 with (fail)
      clear hw;refine zQ 99 fun wd kS=>?_;refine zS 15 [(0,39),(1,40),(2,41),(3,42),(4,43),(5,44),(6,45),(7,46),(8,47),(9,48),(10,49),(11,50),(12,51),(13,52),(14,53)] kS ?_;iterate 15 refine zT ?_ (y:=by intro wk hk;obtain⟨_,_,_,_,_,_,_,_⟩:=zkc8 hk hbx f0 f1 x0 x1 x2 y0 y1;have:=hk.cell y2;go_simp;try with_reducible rfl)
      refine zN (zO 15 (fun K hK=>?_));go_simp;refine (Cg t s q0 t' s' q' _).mono ?_;rintro e w4 ⟨rfl,hx4⟩;have kS2:ab wr w4:=kS.trans hx4;clear hx4;refine hK.out _ _ (fun _=>kS2) ?_;clear hK K;try simp only[kA]
      by_cases hid:s=s'/\q0=q';case neg =>
       have hnz:(eR s q0 s' q' != 0)=true:=by rw[DK,decide_eq_false hid];rfl
       have HNEW:=zZ (tj (S:=S) (cl:=cl) HJ.out (.inr ⟨_,HLAST.out,fun e=>hid (by have:=jS.1 e;rw[HSG.out,HSI.out]at this;exact this)⟩));replace hid:=zZ hid;refine zS 2 [(16,55),(17,56)] kS2 ?_;iterate 2 refine zT ?_ (y:=by intro wk hk;obtain⟨_,_,_,_,_,_,_,_⟩:=zkc8 hk hbx f0 f1 x0 x1 x2 y0 y1;have:=hk.cell y2;go_simp;try with_reducible rfl)
       refine zN (zD ?_);clear y0 y1 y2 x0 x1 x2 hbx gk f0 f1 hfz;go_wp2_with (at_builtin;refine dq _ rfl (.tmp 57) (.tmp 60) 206 rfl w3.heap.size 209 iC _ 2 16 Tryz.underlying206 hiC hC0 hC1 hC2 rfl (by decide) pR _ _ rfl (HO.out.ext (kS2.alloc _)) _ #[C D (i:Int),.bool false] _ ((i,false):Nat×Bool) rfl (heap_alloc_new _ _) rfl (by simp[Value.oneCell']) rfl (by have:=HLG.out;omega) (by omega) (by have:=HX3.out.size;have:=kS2.size;simp;omega) ?_;intro v9 w9 hown9 hg9);obtain⟨A9,c9,h9⟩:=hown9.form;rw[show (bZ S cl (ks.take k)++[((i,false):Nat×Bool)]).length=m+1 by rw[yU,HLG.out];rfl]at h9;subst h9;have hX9:ab w3 w9:=(HX3.out.trans (kS2.alloc _)).grown hg9 (fun kk e=>HO.out.ge kk e);have HO9:Bx (ab w3 w9/\ah w3.heap.size 209 2 pR w9 (E A9 (m+1) c9) (bZ S cl (ks.take (k+1)))):=⟨⟨hX9,by rw[HNEW.out];exact hown9⟩⟩
       clear hown9 hg9 hX9;go_wp2_with fail;go_roundw
       case rel=>exact⟨k+1,m+1,A9,c9,rfl,by go_num,by omega,HO9⟩
       case measure=>simp[intOf];omega
      have hnz:(eR s q0 s' q' != 0)=false:=by rw[DK,decide_eq_true hid];rfl
      have HGID:=zZ (show gu S gi=gu S i from jS.2 (by rw[HSG.out,HSI.out];exact hid));have HID:=zZ hid;clear hid;refine zS 2 [(16,55),(17,56)] kS2 ?_;iterate 2 refine zT ?_ (y:=by intro wk hk;obtain⟨_,_,_,_,_,_,_,_⟩:=zkc8 hk hbx f0 f1 x0 x1 x2 y0 y1;have:=hk.cell y2;go_simp;try with_reducible rfl)
      refine zN (zD ?_);clear gk;have hG3:G<w4.heap.size:=zB hG2 kS2.size;have HX4:Bx (ab w wr/\ab wr w4):=⟨⟨HF3.out.xt.trans HX3.out,kS2⟩⟩
      replace hbx:=kS2.cell hbx;replace f0:=kS2.cell f0;replace f1:=kS2.cell f1;replace x0:=kS2.cell x0;replace x1:=kS2.cell x1;replace x2:=kS2.cell x2;replace y0:=kS2.cell y0;replace y1:=kS2.cell y1;replace y2:=kS2.cell y2;have hfz4:=((HO.out.ext kS2).lies h0)
      obtain⟨G',hGG,-,-,hfz4⟩:=hfz4;obtain rfl:G=G':=by injection hGG with h;injection h
      obtain⟨bB,oB,kc,rfl,k0,HK0,-,-⟩:=(HC.out.ext (HX4.out.1.trans HX4.out.2)).at_ hgi;obtain⟨kc',k1,HK1,-,-⟩:=(HC.out.ext (HX4.out.1.trans HX4.out.2)).cell_ hin;have HKK:=zZ (show od cl gi=kc/\od cl i=kc' by unfold od;rw[HK0.out,HK1.out];exact⟨rfl,rfl⟩);have HKS2:=zZ kS2;clear kS2 hfz hGG HK0 HK1;go_upto_region 17 with (fail)
      clear hnz hng;have eL:∀W,(Op.equalIn 10000 35 (.agg #[C D t,C D s,C D q0]) (.agg #[C D t',C D s',C D q'])).run Tryz.prog W=.ok (decide (t=t'/\s=s'/\q0=q')) W:=fun W=>vx _ _ _ _ _ _ W;have gL:=nt;have fz:=hfz4 (m'*2+1);clear hfz4;by_cases ht:t=t'
      ·rw[decide_eq_true ⟨ht,HID.out⟩]at eL;have HST:=zZ (show ef S gi=ef S i by rw[HSG.out,HSI.out,ht,HID.out.1,HID.out.2]);clear ht;by_cases hkc:kc=kc'
       ·have hkb:(kc != kc')=false:=by simp[hkc]
        have HOLD:=zZ (Eu (S:=S) (cl:=cl) HJ.out HLAST.out HGID.out ⟨HST.out,by rw[HKK.out.1,HKK.out.2,hkc]⟩);replace hkc:=zZ hkc;refine zQ 99 fun we kS=>?_;refine zS 20 [(0,67),(1,68),(2,69),(3,70),(4,71),(5,72),(6,73),(7,74),(8,75),(9,76),(10,77),(11,78),(12,79),(13,80),(14,81),(15,82),(16,83),(17,84),(18,85),(19,86)] kS ?_;iterate 20 refine zT ?_ (y:=by intro wk hk;obtain⟨_,_,_,_,_,_,_,_⟩:=zkc8 hk hbx f0 x0 x1 x2 y0 y1 y2;obtain⟨_,_⟩:=zkc2 hk k0 k1;go_simp;try with_reducible rfl)
        refine zN (zD ?_);clear eL gL hkb;go_wp2_with fail;go_roundw
        case rel=>exact⟨k+1,m,some ⟨G,0,none⟩,c8,rfl,by go_num,by omega,⟨⟨HX3.out.trans (HKS2.out.trans kS),by rw[HOLD.out];exact HO.out.ext (HKS2.out.trans kS)⟩⟩⟩
        case measure=>simp[intOf];omega
       ·have hkb:(kc != kc')=true:=by simp[hkc]
        have HDIS:=zZ (sR (S:=S) (cl:=cl) HJ.out HG0.out (by rw[HLG.out,HMM.out]) HGID.out (fun h=>hkc (by have:=h.2;rw[HKK.out.1,HKK.out.2]at this;exact this)));replace hkc:=zZ hkc;refine zQ 99 fun we kS=>?_;refine zS 20 [(0,67),(1,68),(2,69),(3,70),(4,71),(5,72),(6,73),(7,74),(8,75),(9,76),(10,77),(11,78),(12,79),(13,80),(14,81),(15,82),(16,83),(17,84),(18,85),(19,86)] kS ?_;iterate 20 refine zT ?_ (y:=by intro wk hk;obtain⟨_,_,_,_,_,_,_,_⟩:=zkc8 hk hbx f0 f1 x0 x1 x2 y0 y1;obtain⟨_,_,_⟩:=zkc3 hk y2 k0 k1;go_simp;try with_reducible rfl)
        refine zN (zD ?_);clear eL gL hkb;replace f1:=kS.cell f1;replace fz:we.frozen? ⟨G,m'*2+1,none⟩=false:=by obtain⟨G2,hGG,-,-,h⟩:=((HO.out.ext (HKS2.out.trans kS)).lies h0);injection hGG with hGG;injection hGG with hGG;subst hGG;exact h (m'*2+1)
        go_wp2_with fail;go_roundw
        case rel=>exact⟨k+1,m,some ⟨G,0,none⟩,c8,rfl,by go_num,by omega,⟨⟨(HX3.out.trans (HKS2.out.trans kS)).setCell (by simp only;omega) _,by rw[HDIS.out];exact (HO.out.ext (HKS2.out.trans kS)).putAt (k:=m') (j:=1) (x':=(gi,true)) (by omega) (by decide) (fun cs x h1 h2=>by rw[HG0.out]at h1;injection h1 with h1;subst h1;unfold pR at *;rw[h2];rfl)⟩⟩⟩
        case measure=>simp[intOf];omega
      ·rw[decide_eq_false (fun h=>ht h.1)]at eL;have HDIS:=zZ (sR (S:=S) (cl:=cl) HJ.out HG0.out (by rw[HLG.out,HMM.out]) HGID.out (fun h=>ht (by have:=h.1;rw[HSG.out,HSI.out]at this;injection this)));replace ht:=zZ ht;refine zQ 99 fun we kS=>?_;refine zS 20 [(0,67),(1,68),(2,69),(3,70),(4,71),(5,72),(6,73),(7,74),(8,75),(9,76),(10,77),(11,78),(12,79),(13,80),(14,81),(15,82),(16,83),(17,84),(18,85),(19,86)] kS ?_;iterate 10 refine zT ?_ (y:=by intro wk hk;obtain⟨_,_,_,_,_,_,_,_⟩:=zkc8 hk hbx f0 f1 x0 x1 x2 y0 y1;have:=hk.cell y2;go_simp;try with_reducible rfl)
       iterate 9 (apply zK;exact⟨rfl,rfl⟩;simp only[kA];exact rfl)
       refine zT ?_ (y:=by intro wk hk;obtain⟨_,_,_,_,_,_,_,_⟩:=zkc8 hk hbx f0 f1 x0 x1 x2 y0 y1;have:=hk.cell y2;go_simp;try with_reducible rfl);refine zN (zD ?_);clear eL gL;replace f1:=kS.cell f1;replace fz:we.frozen? ⟨G,m'*2+1,none⟩=false:=by obtain⟨G2,hGG,-,-,h⟩:=((HO.out.ext (HKS2.out.trans kS)).lies h0);injection hGG with hGG;injection hGG with hGG;subst hGG;exact h (m'*2+1)
       go_wp2_with fail;go_roundw
       case rel=>exact⟨k+1,m,some ⟨G,0,none⟩,c8,rfl,by go_num,by omega,⟨⟨(HX3.out.trans (HKS2.out.trans kS)).setCell (by simp only;omega) _,by rw[HDIS.out];exact (HO.out.ext (HKS2.out.trans kS)).putAt (k:=m') (j:=1) (x':=(gi,true)) (by omega) (by decide) (fun cs x h1 h2=>by rw[HG0.out]at h1;injection h1 with h1;subst h1;unfold pR at *;rw[h2];rfl)⟩⟩⟩
       case measure=>simp[intOf];omega
    ·obtain rfl:m0=k:=by omega
     have HE:Bx (G6 S cl w.heap.size (E A8 m c8) wr/\ab w wr):=⟨⟨⟨ks,by rw[HLN.out];exact HKS.out.1,HKS.out.2,by have:=HO.out;rw[xV (by have:=HKL.out;omega)]at this;exact this.mono (HF3.out.xt.size)⟩,HF3.out.xt.trans HX3.out⟩⟩
     go_wp2_with fail;go_ret
     exact⟨⟨_,rfl,HE.out.1⟩,HE.out.2⟩
theorem Bm{F:List (Nat×Bool)}{g:Nat×Bool}(h:F[k]?=some g):eN (F.take (k+1))=eN (F.take k)++(if g.2 then [] else [g.1]):=by rw[ax h];unfold eN;rw[List.filterMap_append];cases hg:g.2<;>simp[hg]
theorem Ch(F:List (Nat×Bool)):(eN F).length<=F.length:=uV _ _
theorem KC{S:List bN}{os:List Nat}(hl:cl.length=S.length)(hp:ks.Perm (fU S S.length))(ha:ks.Pairwise fun a b=>rZ S a b=true)(ho:os.Perm (eN (bZ S cl ks)))(hs:os.Pairwise fun a b=>¬se S b a<0) :
  eQ S cl S.length (os.map fun i:Nat=>(i:Int)):=by
 refine⟨?_,(ho.map _).trans (BY hl hp ha)⟩;have hn:os.Nodup:=ho.nodup_iff.2 (mQ ha);unfold iT;rw[uK];refine (List.pairwise_and_iff.2 ⟨hs,hn⟩).imp_of_mem fun {a b} h1 h2 hab=>?_;obtain⟨a1,a2⟩:=(jN hl hp ha).1 (ho.mem_iff.1 h1);obtain⟨b1,b2⟩:=(jN hl hp ha).1 (ho.mem_iff.1 h2);rw[pi (i8 a1) (i8 b1)];rcases uu (GN hl (i8 a1) (i8 b1) a2 b2 hab.2) with h|h
 ·exact h
 ·exact absurd ((lr S b a).2 h) hab.1
def GW(S:List bN)(cl:List Int)(base:Nat)(v:Value)(w':World):Prop :=
 ∃out:List Int,eQ S cl S.length out/\w'.ownsRow base 3 1 v out.length (out.map (Value.int .i64))
theorem xi(v vc:Value)(S:List bN)(cl:List Int)(w:World){p q:Nat}(hs:iq p w v S)(hc:ak q w vc cl)(hl:cl.length=S.length)(hS:S.length<=300) :
  Calls Tryz.prog 98 #[v,vc] w fun e w'=>(∃vo,e=.returned (.tuple #[vo,C D 0])/\GW S cl w.heap.size vo w')/\ab w w':=by
 obtain⟨A,n,c,rfl,hnc,hcc,hnn,HL⟩:=hs.open_;obtain⟨B,nb,cb,rfl,hnb,hcb,hmm,HLC⟩:=hc.open_;obtain rfl:nb=n:=by have:=HL.out;have:=HLC.out;omega
 have hn1:nb<=300:=by have:=HL.out;omega
 have HS:Bx (iq p w (E A nb c) S):=⟨hs⟩
 have HC:Bx (ak q w (E B nb cb) cl):=⟨hc⟩
 have HLL:=zZ hl;clear hs hc hl hS;obtain⟨i0,hi0,hz0,hz1,hz2⟩:=info_parts Tryz.infoI;have e0:((nb:Int)!=(nb:Int))=false:=by simp
 obtain⟨w1,hw1⟩:=nm ((w.alloc (.cells #[E A nb c] 168)):World);have HF:Bx (aA w w1 [(w.heap.size,#[E A nb c],168)]):=⟨by rw[hw1];exact (aA.start w).push _ _ rfl⟩
 go_enter Tryz.func98,Tryz.ntmps98
 go_upto_region 1 with (fail)
 rw[<-hw1];have hw1p:0<w1.heap.size:=by rw[hw1];simp
 clear hw1;have z0:=(HF.out.at_ 0 rfl).c 0 rfl;go_upto_region 3 with (fail)
 clear e0;go_wp2_with (go_at_call 137;refine (Dc _ _ S cl _ (HS.out.ext (oT.stab p) HF.out.xt) (HC.out.ext HF.out.xt) HLL.out (by have:=HL.out;omega)).mono ?_;rintro e w2 ⟨⟨vF,rfl,ks,hp,hpw,hO⟩,hx2⟩;obtain⟨AF,cF,rfl⟩:=hO.form;have HF2:Bx (aA w w2 [(w.heap.size,#[E A nb c],168)]):=⟨HF.out.ext hx2⟩);have HKS:Bx (ks.Perm (fU S S.length)/\ks.Pairwise fun a b=>rZ S a b=true):=⟨⟨hp,hpw⟩⟩
 obtain⟨F,hF⟩:=nm (bZ S cl ks);rw[<-hF]at hO;obtain⟨nF,hnF⟩:=nm F.length;rw[<-hF,<-hnF];rw[<-hnF]at hO;have hnF1:nF<=300:=by have h1:=tw S cl ks;have h2:=hp.length_eq;have h3:=tB S S.length;have:=HL.out;rw[hnF,hF];omega
 have HFF:=zZ hF;have HNF:=zZ hnF;have HO2:Bx (ah w1.heap.size 209 2 pR w2 (E AF nF cF) F):=⟨hO⟩
 have hw12:=yR HF.out.xt.size (zX _);clear hx2 hp hpw hF hnF hO HF z0;go_wp2_with fail;go_loopw [6,18] (fun s6 s18 wr=>∃(k m:Nat) (A6:Option Addr) (c6:Nat),s6=E A6 m c6/\s18=C D k/\k<=nF/\m<=300/\Bx (ab w2 wr/\wr.ownsRow w2.heap.size 3 1 (E A6 m c6) m ((eN (F.take k)).map nV))) (fun _ k _=>nF-(intOf k).toNat)
 case atStart=>exact⟨0,0,none,0,rfl,rfl,by omega,by omega,⟨⟨zE _,yZ _ _ _ _⟩⟩⟩
 case round =>
  obtain⟨k,m,A6,c6,rfl,rfl,hk,hm,HR⟩:=hrel;by_cases hkn:k<nF
  ·obtain⟨G,rfl,hG1,hG2,-⟩:=HO2.out.lies (by omega);obtain⟨cs,⟨gi,gd⟩,-,hcl,hR,HG0⟩:=((HO2.out.ext HR.out.1).isS (p:=0) (R':=fun _=>pR) (by decide) hw1p (fun _ _ h=>h)).cell_ hkn;have f0:=hcl 0 (C D (gi:Int)) (by rw[hR];rfl);have f1:=hcl 1 (.bool gd) (by rw[hR];rfl);rw[yV,yQ]at f0;rw[yV]at f1;have HSN:=zZ (Bm HG0.out);have hx2:=HR.out.1.alloc (.cells #[C D (gi:Int),.bool gd] 209);have hO2:=ao HR.out.2 ((zE _).alloc (.cells #[C D (gi:Int),.bool gd] 209));have hml:(eN (F.take (k+1))).length<=300:=by have:=Ch (F.take (k+1));simp at this;omega
   clear hcl hR HR;go_upto_region 7 with (fail)
   obtain⟨w3,hw3⟩:=nm ((wr.alloc (.cells #[C D (gi:Int),.bool gd] 209)):World);obtain⟨g,hg⟩:=nm wr.heap.size;have hB2:Bk w3 g #[C D (gi:Int),.bool gd] 209:=by rw[hw3,hg];exact Bk.new _ _ _
   rw[<-hw3]at hx2 hO2;rw[<-hw3,<-hg];clear hw3 hg f0 f1;have y0:=hB2.c 0 rfl;have y1:=hB2.c 1 rfl;have HX:=zZ hx2;have HO:=zZ hO2;clear hB2 hx2 hO2;cases gd with
   |true =>
    rw[if_pos rfl,xN]at HSN;go_wp2_with fail;go_roundw
    case rel=>exact⟨k+1,m,A6,c6,rfl,by go_num,by omega,by omega,⟨⟨HX.out,by rw[HSN.out];exact HO.out⟩⟩⟩
    case measure=>simp[intOf];omega
   |false =>
    rw[if_neg (by simp)]at HSN;have hm3:m+1<=300:=by have h1:=HO.out.1;rw[HSN.out]at hml;simp at h1 hml;omega
    clear hml;go_wp2_with (at_builtin;refine aF _ rfl (.tmp 25) (.tmp 28) 22 rfl w2.heap.size 3 i0 _ 8 Tryz.underlying22 hi0 hz0 hz1 hz2 rfl _ _ _ rfl (HO.out.alloc _) _ _ rfl (by simp;rfl) rfl (by omega) (by omega) (by have:=HX.out.size;simp;omega) ?_;intro v7 w7 hown7 hg7);obtain⟨A7,c7,rfl⟩:=ig hown7;have HO7:Bx (ab w2 w7/\w7.ownsRow w2.heap.size 3 1 (E A7 (m+1) c7) (m+1) ((eN (F.take (k+1))).map nV)):=⟨⟨(HX.out.alloc _).grown hg7 (fun kk e=>aq HO.out kk e),by rw[HSN.out,yG];exact hown7⟩⟩
    clear hown7 hg7 y0 y1;go_wp2_with fail;go_roundw
    case rel=>exact⟨k+1,m+1,A7,c7,rfl,by go_num,by omega,by omega,HO7⟩
    case measure=>simp[intOf];omega
  ·obtain rfl:nF=k:=by omega
   have HX:=zZ HR.out.1;have hO:=HR.out.2;rw[xV (by have:=HNF.out;omega)]at hO;have HO:=zZ hO;have hml:(eN F).length=m:=by have:=hO.1;simpa using this
   have HFM:Bx (∀x∈eN F,x<S.length):=⟨fun x hx=>by rw[HFF.out]at hx;exact ((jN HLL.out HKS.out.1 HKS.out.2).1 hx).1⟩
   have eg:∀args w,(callFunc 139 args).run Tryz.prog w=.ok (.enter 139 args) w:=enters_of Tryz.func139 (by kernel_rfl) rfl;have hsrt:=qX S.length 139 #[.pointer (some ⟨w.heap.size,0,none⟩)] (se S) (E A6 m c6) (eN F) w2.heap.size wr (by omega) HFM.out
    (fun x _=>by rw[lr,eF.irr];simp) (fun x y z _ _ _ h1 h2=>(lr S x z).2 (eF.tr _ _ _ ((lr S x y).1 h1) ((lr S y z).1 h2))) (fun x y z _ _ _ h1 h2=>Ht h1 h2) eg (by rw[hml];exact HO.out)
    (fun w1 hg x y hx hy=>by have X:=HX.out.grown hg (fun kk e=>aq HO.out kk e);exact Gf x y w.heap.size _ S w1 (X.cell ((HF2.out.at_ 0 rfl).c 0 rfl)) (HS.out.ext (oT.stab p) (HF2.out.xt.trans X)) hx hy)
   rw[hml]at hsrt;have HSRT:Bx _:=⟨hsrt⟩
   clear HR hml eg hsrt hO;have hbm:decide ((300:Int)<(m:Int))=false:=decide_eq_false (by omega);go_wp2_with (go_at_call 138;refine HSRT.out.mono ?_;rintro e w5 ⟨rfl,os,hp,hpw,hown,hg⟩);have HE:Bx (GW S cl w.heap.size (E A6 m c6) w5/\ab w w5):=⟨⟨⟨os.map fun i:Nat=>(i:Int),KC HLL.out HKS.out.1 HKS.out.2 (by rw[<-HFF.out];exact hp) (hpw.imp fun h=>by omega),by have h1:=hown.1;simp at h1;rw[zJ,vY,h1];exact cd hown HF2.out.xt.size⟩,(HF2.out.xt.trans HX.out).grown hg (fun kk e=>by have:=aq HO.out kk e;have:=HF2.out.xt.size;omega)⟩⟩
   clear hp hpw hown hg;go_wp2_with fail;exact bodyPost_ret (v:=.tuple #[E A6 m c6,C D 0]) (by simp[results,Tryz.results98,go_sem]) rfl ⟨⟨_,rfl,HE.out.1⟩,HE.out.2⟩
end Go.Proofs.YtpaidaphacoblaaGreatDoor

namespace Go.Proofs.YtpaidaphacoblaaGreatDoor
open Go.Value renaming int→C,slice→E
open Go.IntKind renaming i64→D
open Go.RowKit _root_.Go.Proofs.Tryz
variable {p:Nat}
def GB(l:List aj)(base:Nat)(v:Value)(w':World):Prop:=∃(out cl:List Int),Df l cl/\eQ (l.map aj.st) cl l.length out/\w'.ownsRow base 3 1 v out.length (out.map (Value.int .i64))
theorem uf(v:Value)(l:List aj)(w:World)(hv:au p w v l)(hl:l.length<=300)(hw0:0<w.heap.size) :
  Calls prog 61 #[v,.func (.func 62) #[] #[],.func (.func 63) #[] #[]] w fun e w'=>(∃vo,e=.returned (.tuple #[vo,C D 0])/\GB l w.heap.size vo w')/\ab w w':=by
 have HV:Bx (au p w v l):=⟨hv⟩
 have HL:Hid (l.length<=300):=hl;clear hv hl;go_enter func61,ntmps61
 go_upto_region 2 with (go_at_call 97;refine (CY _ l _ HV.out HL.out hw0).mono ?_;rintro e w1 ⟨⟨vo,rfl,b1,b2,n,cs,rfl,hn,hS,hC,hW⟩,hx1⟩;have HB:Bx (oI 0 w1 (E (some ⟨b1,0,none⟩) n n) (l.map aj.st)/\ak 0 w1 (E (some ⟨b2,0,none⟩) n n) cs/\Df l cs/\ab w w1):=⟨⟨hS,hC,hW,hx1⟩⟩;clear hS hC hW hx1 hn)
 go_wp2_with (go_at_call 98;refine (xi _ _ (l.map aj.st) cs _ HB.out.1 HB.out.2.1 (by rw[HB.out.2.2.1.1];simp) (by rw[zJ];exact HL.out)).mono ?_;rintro e w2 ⟨⟨vi,rfl,out,h1,h2⟩,hx2⟩;have HE:Bx (GB l w.heap.size vi w2/\ab w w2):=⟨⟨⟨out,cs,HB.out.2.2.1,by rw[zJ]at h1;exact h1,cd h2 HB.out.2.2.2.size⟩,HB.out.2.2.2.trans hx2⟩⟩;clear h1 h2 hx2);exact bodyPost_ret (v:=.tuple #[vi,C D 0]) (by simp[results,results61,go_sem]) rfl ⟨⟨_,rfl,HE.out.1⟩,HE.out.2⟩
theorem AO{l:List aj}:∀{out:List Int},(∀x∈out,∃(i:Nat) (a:aj),x=(i:Int)/\l[i]?=some a)->(eM l out).length=out.length/\∀(j i:Nat),out[j]?=some (i:Int)->(eM l out)[j]?=l[i]?
 |[],_=>⟨rfl,fun j i h=>by simp at h⟩
 |x::out,h=>by
  obtain⟨i,a,hx,ha⟩:=h x (by simp);obtain⟨h1,h2⟩:=AO (out:=out) fun y hy=>h y (by simp[hy]);have e:eM l (x::out)=a::eM l out:=by unfold eM;rw[List.filterMap_cons,hx,yC,ha]
  rw[e];refine⟨by simp[h1],fun j k hk=>?_⟩;match j,hk with
  |0,hk =>
   simp only[List.getElem?_cons_zero,Option.some.injEq]at hk⊢;have:i=k:=by omega
   subst this;rw[ha]
  |j+1,hk=>simpa using h2 j k (by simpa using hk)
theorem E4(n:Nat)(hn:n<=1000)(w:World):(Instr.makeSlice 31 (C D (n:Int)) (C D (n:Int))).run prog w=.ok (E (some ⟨w.heap.size,0,none⟩) n n) (w.alloc (.cells (madeCells #[C D 0,C D 0,C D 0,C D 0,.string ⟨#[]⟩,C D 0,E none 0 0,C D 0,C D 0,C D 0,C D 0,C D 0,C D 0] (n*13)) 41)):=by obtain⟨i,hi,h0,h1,h2⟩:=info_parts Tryz.infoCap;have h:=run_make (P:=prog) w 31 41 i _ underlying31 hi h0 .i64 .i64 n n (by omega) (Int.le_refl _) (by rw[h2];omega) (by omega);rw[yC,h1]at h;exact h
def qV(b p:Nat):World->List Value->aj->Prop:=fun w cs c=>∃u,cs=c.cells u/\ak b w u c.ch/\ak p w u c.ch/\c.wf
theorem ak.both{b:Nat}{w w':World}{v:Value}{l:List Int}(h:ak b w v l)(k:ak p w v l)(x:XT b w w'):ak p w' v l:=by obtain⟨A,c,hv,h1,h2,h3,h5,h4⟩:=k;obtain⟨A',c',hv',-,-,-,-,h4'⟩:=h;refine⟨A,c,hv,h1,h2,h3,h5,fun k y hy=>?_⟩;obtain⟨g,off,ha,hb,hc⟩:=h4 k y hy;obtain⟨g',off',ha',hb',-⟩:=h4' k y hy;rw[hv]at hv';injection hv' with hv';rw[<-hv',ha]at ha';injection ha' with ha';injection ha' with e;subst e;exact⟨g,off,ha,hb,x.cell hc hb'⟩
theorem qV.stab(b p:Nat):lV b (qV b p):=by rintro w w' cs c ⟨u,h1,h2,h3,h4⟩ e;exact⟨u,h1,h2.xt e,h2.both h3 e,h4⟩
structure qt (p:Nat) (ys:List aj) (w wr:World) (b n k:Nat) (xs:List aj):Prop where
 x:ab w wr
 b1:w.heap.size<=b
 ow:ah b 41 13 (qV b p wr) wr (E (some ⟨b,0,none⟩) n n) xs
 at_:∀j,j<k->xs[j]?=ys[j]?
section
variable {ys xs:List aj} {w wr w':World} {p b n k:Nat}
theorem ah.imp{α:Type}{base e size:Nat}{v:Value}{R R':List Value->α->Prop}{w:World}{xs:List α}(h:ah base e size R w v xs)(hR:∀cs x,R cs x->R' cs x):ah base e size R' w v xs:=by obtain⟨css,h1,h2,h3,h4⟩:=h;exact⟨css,h1,h2,h3,fun k cs x hc hx=>hR _ _ (h4 k cs x hc hx)⟩
theorem qt.ext(h:qt p ys w wr b n k xs)(x:ab wr w'):qt p ys w w' b n k xs :=
 ⟨h.x.trans x,h.b1,(h.ow.ext x).imp fun cs c hc=>qV.stab b p _ _ cs c hc x.xt,h.at_⟩
theorem qt.put(h:qt p ys w wr b n k xs){c:aj}(hk:k<n)(hc:ys[k]?=some c){u:Value}(hu:ak b wr u c.ch)(hv:ak p wr u c.ch)(hw:c.wf):qt p ys w (be wr b (k*13) (c.cells u)) b n (k+1) (xs.set k c):=by
 have hg:=ez b (c.cells u) wr (k*13);have hl:=h.ow.len;refine⟨h.x.grown hg (fun kk e=>by injection e with e;have:=h.b1;omega),h.b1,(h.ow.putAll hk (c.cells u) rfl ⟨u,rfl,hu,hv,hw⟩).imp fun cs c hc=>qV.stab b p _ _ cs c hc hg,fun j hj=>?_⟩;rw[yD];by_cases e:k=j
 ·subst e;rw[if_pos rfl,if_pos (by omega),hc]
 ·rw[if_neg e];exact h.at_ j (by omega)
theorem qt.choices(h:qt p ys w wr b n k xs){j:Nat}{c:aj}(hj:j<n)(hc:xs[j]?=some c){u:Value}(hu:ak b wr u c.ch)(hv:ak p wr u c.ch):qt p ys w (wr.setCell ⟨b,j*13+6,none⟩ u) b n k xs:=by
 have hg:wr.grownBy (wr.setCell ⟨b,j*13+6,none⟩ u) (some b):=⟨rfl,rfl,rfl,by simp[World.setCell],fun kk _ hne=>yP _ _ _ _ (fun e=>hne (by rw[e]))⟩
 have h1:=h.ow.putAt (x':=c) (u:=u) hj (show 6<13 by decide) fun cs x hx hR=>by
  rw[hc]at hx;injection hx with hx;subst hx
  obtain⟨u0,rfl,-,-,hw⟩:=hR;exact⟨u,rfl,hu,hv,hw⟩
 have e:xs.set j c=xs:=by obtain⟨h1,h2⟩:=zY.1 hc;rw[<-h2];exact uM h1
 rw[e]at h1;exact⟨h.x.grown hg (fun kk e=>by injection e with e;have:=h.b1;omega),h.b1,h1.imp fun cs c hc=>qV.stab b p _ _ cs c hc hg,h.at_⟩
end
def It:aj:=⟨⟨0,0,0⟩,0,[],0,[],⟨0,0⟩,⟨0,0,0,0⟩⟩
theorem Jy:It.wf:=by
 have h:aU 0:=⟨by decide,by decide⟩
 exact⟨⟨h,h,h⟩,h,by decide,h,⟨h,h⟩,⟨h,h,h,h⟩,by decide⟩
def DL(l:List aj)(p:Nat)(v:Value)(w':World):Prop:=∃b n,p<b/\v=E (some ⟨b,0,none⟩) n n/\n=(ay l).length/\au p w' v (ay l)
theorem rj(v:Value)(l:List aj)(w:World)(hp:p<w.heap.size)(hv:au p w v l)(hl:l.length<=300) :
  Calls prog 30 #[v] w fun e w'=>(∃vo,e=.returned (.tuple #[vo,C D 0])/\DL l p vo w')/\ab w w':=by
 obtain⟨A,n0,c,rfl,hnc,hcc,hnn,HL⟩:=hv.open_;have HV:Bx (au p w (E A n0 c) l):=⟨hv⟩
 have hn0:n0<=300:=by have:=HL.out;omega
 have hwp:0<w.heap.size:=by omega
 clear hv hl;go_enter func30,ntmps30
 go_upto_region 4 with (go_at_call 61;refine (uf _ l _ HV.out (by rw[HL.out];exact hn0) hwp).mono ?_;rintro e w1 ⟨⟨vi,rfl,out,cl,hW,hS,hO⟩,hx1⟩;obtain⟨Ai,ci,rfl⟩:=ig hO)
 obtain⟨n,hn⟩:=nm out.length;rw[<-hn]at hO⊢;have hn1:n<=300:=by have:=D9 hS;have:=HL.out;omega
 have hel:∀x∈out,∃(i:Nat) (a:aj),x=(i:Int)/\l[i]?=some a:=fun x hx=>by obtain⟨i,h1,h2,-⟩:=hS.mem.1 hx;exact⟨i,_,h1,zV h2⟩
 have hcg:=AO hel;rw[Ew hW hS,<-hn]at hcg;have HCG:=zZ hcg;have HEL:=zZ hel;have HI:Bx (ak 0 w1 (E Ai n ci) out):=⟨ak.of_own hO hwp (fun x hx=>by obtain⟨i,a,h1,h2⟩:=hel x hx;have:=(zY.1 h2).1;have:=HL.out;constructor<;>omega) (by omega)⟩
 have HX1:=zZ hx1;have hpb:=zB hp hx1.size;clear hW hS hO hn hel hcg hx1;have hm:=fun W=>E4 n (by omega) W;go_upto_region 5 with (fail)
 clear hm;obtain⟨b,hb⟩:=nm w1.heap.size;obtain⟨w2,hw2⟩:=nm (w1.alloc (.cells (madeCells #[C D 0,C D 0,C D 0,C D 0,.string ⟨#[]⟩,C D 0,E none 0 0,C D 0,C D 0,C D 0,C D 0,C D 0,C D 0] (n*13)) 41));have HS:Bx (qt p (ay l) w1 w2 b n 0 (List.replicate n It)):=⟨by
  have x2:ab w1 w2:=by rw[hw2];exact (zE _).alloc _
  have o1:=ah.made (e:=41) (R:=qV b p w2) w1 (It.cells (E none 0 0)) It n (by decide) (by omega) ⟨_,rfl,ak.nil _ _,ak.nil _ _,Jy⟩;refine⟨x2,by omega,?_,fun j hj=>by omega⟩;rw[hb,hw2];rw[hb,hw2]at o1;exact o1⟩
 rw[<-hb,<-hw2];have hpb2:p<b:=by omega
 clear hw2 hb;go_wp2_with fail;go_loopw [22] (fun s22 wr=>∃(k:Nat) (xs:List aj),s22=C D k/\k<=n/\Bx (qt p (ay l) w1 wr b n k xs)) (fun k _=>n-(intOf k).toNat)
 case atStart=>exact⟨0,_,rfl,by omega,HS⟩
 case round =>
  obtain⟨k,xs,rfl,hk,HR⟩:=hrel;clear HS;by_cases hkn:k<n
  ·obtain⟨bi,oi,x,rfl,gk,HXk,-,-⟩:=(HI.out.ext HR.out.x).at_ hkn;obtain⟨i,a,hxi,hai⟩:=HEL.out x (zW HXk.out);subst hxi;have hin:i<n0:=by have:=(zY.1 hai).1;have:=HL.out;omega
   have HC:=zZ ((HCG.out.2 k i HXk.out).trans hai);obtain⟨bA,oA,_,_,rfl,-⟩:=HV.out.at_ hin;obtain⟨t,s,q,kd,ct,ts,tq,lp,lc,lg,lv,str,ch,Au,mu,cu,HX,hcs,hI,hwf⟩:=au.read HV.out (XT.refl p w) hin;obtain rfl:a=⟨⟨t,s,q⟩,kd,str,ct,ch,⟨ts,tq⟩,⟨lp,lc,lg,lv⟩⟩:=by have:=HX.out;rw[hai]at this;injection this
   have hcs2:=hcs.ext (HX1.out.trans HR.out.x);obtain⟨c0,c1,c2,c3,c4,c5,c6,c7,c8,c9,c10,c11,c12⟩:=hcs2;have HU:Bx (ak b wr (E Au mu cu) ch):=⟨(hI.re (by have:=HX1.out.size;have:=HR.out.b1;omega)).ext (HX1.out.trans HR.out.x)⟩
   have HU2:Bx (ak p wr (E Au mu cu) ch):=⟨hI.ext (HX1.out.trans HR.out.x)⟩
   have HW:=zZ hwf;have H6:=zZ hcs.c6;obtain⟨cs0,x0,-,⟨u0,rfl,-,-,-⟩,-,hcl,hfz⟩:=HR.out.ow.cellsAt hkn;have z0:=hcl 0 _ rfl;have z1:=hcl 1 _ rfl;have z2:=hcl 2 _ rfl;have z3:=hcl 3 _ rfl;have z4:=hcl 4 _ rfl;have z5:=hcl 5 _ rfl;have z6:=hcl 6 _ rfl;have z7:=hcl 7 _ rfl;have z8:=hcl 8 _ rfl;have z9:=hcl 9 _ rfl;have z10:=hcl 10 _ rfl;have z11:=hcl 11 _ rfl;have z12:=hcl 12 _ rfl
   rw[yQ]at z0;have f0:=hfz (k*13);have f1:=hfz (k*13+1);have f2:=hfz (k*13+2);have f3:=hfz (k*13+3);have f4:=hfz (k*13+4);have f5:=hfz (k*13+5);have f6:=hfz (k*13+6);have f7:=hfz (k*13+7);have f8:=hfz (k*13+8);have f9:=hfz (k*13+9);have f10:=hfz (k*13+10);have f11:=hfz (k*13+11);have f12:=hfz (k*13+12)
   have hch:ch.length<=1000:=hwf.2.2.2.2.2.2;clear hcl hfz hI hcs HXk HX hai;go_upto_region 9 with (fail)
   have hS3:=HR.out.put hkn HC.out HU.out HU2.out HW.out;obtain⟨w3,hw3⟩:=nm (be wr b (k*13) (aj.cells ⟨⟨t,s,q⟩,kd,str,ct,ch,⟨ts,tq⟩,⟨lp,lc,lg,lv⟩⟩ (E Au mu cu)));rw[<-hw3]at hS3;have hU3:ak b w3 (E Au mu cu) ch:=by rw[hw3];exact HU.out.xt (ez b _ _ _)
   simp only[aj.cells,be,wC,Nat.reduceAdd]at hw3;rw[show sv str=Value.string (ba str) from rfl]at hw3;rw[<-hw3];have HS3:=zZ hS3;have HU3:Bx (ak b w3 (E Au mu cu) ch):=⟨hU3⟩
   have e6:=(HX1.out.trans hS3.x).cell H6.out;have hb3:b<w3.heap.size:=by obtain⟨_,hG,_,h,_⟩:=hS3.ow.lies (by omega);injection hG with hG;injection hG with hG;omega
   clear hw3 hS3 hU3 HU HU2 HR c0 c1 c2 c3 c4 c5 c6 c7 c8 c9 c10 c11 c12 z0 z1 z2 z3 z4 z5 z6 z7 z8 z9 z10 z11 z12 f0 f1 f2 f3 f4 f5 f6 f7 f8 f9 f10 f11 f12;go_upto_region 10 with (go_at_call 35;refine (jF _ ch _ HU3.out hch).mono ?_;rintro e w4 ⟨v4,rfl,hO4,hx4⟩;have hS4:=HS3.out.ext hx4;obtain⟨cs0,x0,-,⟨u0,rfl,-,-,-⟩,hx0,hcl,hfz⟩:=hS4.ow.cellsAt hkn;have z6:=hcl 6 _ rfl;have f6:=hfz (k*13+6);have hI4:=ak.of_own (p:=b) hO4 hb3 (fun _ h=>HU3.out.mem h) (by omega);have hJ4:=ak.of_own (p:=p) hO4 (by omega) (fun _ h=>HU3.out.mem h) (by omega);obtain⟨A4,n4,c4,rfl,-⟩:=hI4.open_;have HS5:=zZ (hS4.choices (c:=⟨⟨t,s,q⟩,kd,str,ct,ch,⟨ts,tq⟩,⟨lp,lc,lg,lv⟩⟩) hkn (by rw[hS4.at_ k (by omega)];exact HC.out) hI4 hJ4);clear hcl hfz hS4 hx4 hI4 hJ4 hO4 hx0)
   go_wp2_with fail;go_roundw
   case rel=>exact⟨k+1,_,by go_num,by omega,⟨HS5.out⟩⟩
   case measure=>simp[intOf];omega
  ·obtain rfl:n=k:=by omega
   have HE:Bx (DL l p (E (some ⟨b,0,none⟩) n n) wr/\ab w wr):=⟨by
    have h:=HR.out;have hxl:=h.ow.len;have hxe:xs=ay l:=by
     apply xW;intro j;rcases zU j n with hj|hj
     ·exact h.at_ j hj
     ·rw[zC (by omega),zC (by have:=HCG.out.1;omega)]
    refine⟨⟨b,n,hpb2,rfl,HCG.out.1.symm,?_⟩,HX1.out.trans h.x⟩;rw[<-hxe];refine h.ow.isS (by decide) hpb2 fun cs x hx=>?_;obtain⟨u,h1,-,h2,h3⟩:=hx;exact⟨u,h1,h2,h3⟩⟩
   clear HR;go_wp2_with fail;exact bodyPost_ret (v:=.tuple #[E (some ⟨b,0,none⟩) n n,C D 0]) (by simp[results,results30,go_sem]) rfl ⟨⟨_,rfl,HE.out.1⟩,HE.out.2⟩
end Go.Proofs.YtpaidaphacoblaaGreatDoor

