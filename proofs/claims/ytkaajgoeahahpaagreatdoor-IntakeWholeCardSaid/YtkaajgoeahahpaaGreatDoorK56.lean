import Derived.ScopeJumps
import Derived.Test.YtkaajgoeahahpaaGreatDoorSplitA
import Derived.Test.YtkaajgoeahahpaaGreatDoorAwkX
import Derived.Test.YtkaajgoeahahpaaGreatDoorSitU
import Derived.Test.YtkaajgoeahahpaaGreatDoorMixW
import Derived.Test.YtkaajgoeahahpaaGreatDoorScC
set_option linter.all false
set_option maxRecDepth 100000
set_option maxHeartbeats 0
namespace Go.Proofs.YtkaajgoeahahpaaGreatDoor
open Go.Value renaming int→B,slice→D
open Go.IntKind renaming i64→C
open Go.RowKit _root_.Go.Proofs.Tryz
def C2(ns:List Int)(k:Nat)(ls:List (List Int)):Prop :=
 (k=0/\ls=[[]])\/(0<k/\∃d c s,gs ns k=(d,c,s)/\ls=d++[c]/\∀x,ns[k]?=some x->30<s+x)
def vC(ns:List Int)(k k':Nat)(ls:List (List Int))(l:List Int)(s:Int):Prop :=
 (k'=k/\l=[]/\s=0)\/(k<k'/\gs ns k'=(ls,l,s))
theorem vC.take{ns:List Int}{k k':Nat}{ls:List (List Int)}{l:List Int}{s x:Int}(ho:C2 ns k ls)(h:vC ns k k' ls l s)(hx:ns[k']?=some x)(hf:s+x<=30)(hkk:k<=k'):vC ns k (k'+1) ls (l++[(k':Int)]) (s+x):=by
 rcases h with ⟨rfl,rfl,rfl⟩|⟨hk,hg⟩
 ·refine .inr ⟨by omega,?_⟩;rcases ho with ⟨rfl,rfl⟩|⟨hk0,d,c,s0,hg,rfl,hn⟩
  ·exact CV rfl hx hf
  ·rw[CL hg hx (hn x hx)];simp
 ·exact .inr ⟨by omega,CV hg hx hf⟩
theorem vC.out{ns:List Int}{k k':Nat}{ls:List (List Int)}{l:List Int}{s x:Int}(h:vC ns k k' ls l s)(hk:k<k')(hn:∀y,ns[k']?=some y->30<s+y):C2 ns k' (ls++[l]):=by
 rcases h with ⟨rfl,_⟩|⟨_,hg⟩
 ·omega
 ·exact .inr ⟨by omega,ls,l,s,hg,rfl,hn⟩
theorem yp(code var:Int)(v:Value)(ps:List av)(w:World){p:Nat}(hp:p<w.heap.size)(h:oa p w v ps) :
  Calls prog 43 #[.agg #[B C code,B C var,v]] w (GL w code var ps):=by
 obtain⟨A,n,c,rfl,hnc,hc,hnn,HL⟩:=h.open_;obtain⟨i0,hi0,hz0,hz1,hz2⟩:=info_parts Tryz.infoI;obtain⟨iS,hiS,hy0,hy1,hy2⟩:=info_parts Tryz.infoS;have H:=zZ h;clear h;cases hv:fD code var ps with
 |false =>
  have HV:=zZ hv;clear hv;go_enter func43,ntmps43
  go_wp2_with fail;go_step3
  go_wp2_with fail;refine (kP _ _ _ ps _ ((H.out.ext (bC.stab p) ((zE _).alloc _)).ext (bC.stab p) ((zE _).alloc _))).mono ?_;rintro e w1 ⟨rfl,hx1⟩;rw[HV.out];have c0:w1.cell? ⟨w.heap.size+1,0,none⟩=some (D none 0 0):=hx1.cell (by simp);have f0:w1.frozen? ⟨w.heap.size+1,0,none⟩=false:=(Below.frozen hx1.below (by simp)).trans (by simp);have HE:=zZ (ab.trans (((zE w).alloc _).alloc _) hx1);clear hx1;go_wp2_with fail;rw[Exit.noGoto_ret];refine bodyPost_ret (v:=.tuple #[.agg #[D none 0 0],B C 1]) (by simp[results,results43,go_sem,c0]) rfl ⟨_,[],1,rfl,dn.nil _ _,?_,fun _=>⟨rfl,rfl⟩,fun h=>absurd (HV.out.symm.trans h) (by simp)⟩;exact HE.out.setCell (by simp) _
 |true =>
  have HV:=zZ hv;have hvp:=mD hv;obtain⟨_,_,_,_,hl1,hl24,hall,_⟩:=hvp;have HALL:=zZ hall;have hn1:1<=n:=by have:=HL.out;omega
  have hn24:n<=24:=by have:=HL.out;omega
  clear hv hall hl1 hl24;go_enter func43,ntmps43
  go_wp2_with fail;go_step3
  go_wp2_with fail;refine (kP _ _ _ ps _ ((H.out.ext (bC.stab p) ((zE _).alloc _)).ext (bC.stab p) ((zE _).alloc _))).mono ?_;rintro e w1 ⟨rfl,hx1⟩;rw[HV.out];have HE1:=zZ (ab.trans (((zE w).alloc _).alloc _) hx1);have b2:w1.cell? ⟨w.heap.size,2,none⟩=some (D A n c):=hx1.cell (by simp);have HB2:=zZ b2;have HRC:=zZ (hx1.blk (heap_alloc_new (w.alloc _) _));have HI1:=zZ (H.out.ext (bC.stab p) HE1.out);have hs1':w.heap.size+2<=w1.heap.size:=by have:=hx1.size;simp at this;omega
  clear hx1 b2;go_wp2_with fail;go_step3
  go_wp2_with fail;go_loopw [4,5] (fun s4 s5 wr=>∃(k j g cap:Nat) (ls:List (List Int)),k<=n/\j<=k+1/\s4=D (some ⟨g,0,none⟩) (j+1) cap/\s5=B C k /\
    Hid (ls.length=j+1/\jf w1.heap.size 22 3 wr.heap.size wr (D (some ⟨g,0,none⟩) (j+1) cap) ls/\ab w1 wr/\C2 (ps.map db) k ls)) (fun _ i _=>n-(intOf i).toNat)
  case atStart=>exact⟨0,0,w1.heap.size,1,[[]],by omega,by omega,rfl,rfl,rfl,by simpa using jf.one w1 _ _ _ (zX _),(zE _).alloc _,.inl ⟨rfl,rfl⟩⟩
  case round =>
   obtain⟨wo,rfl⟩:=nm (wr:World);obtain⟨k,j,g,cap,ls,hk,hjk,rfl,rfl,HR⟩:=hrel;have b2:=HR.out.2.2.1.cell HB2.out;by_cases hlt:k<n
   ·go_wp2_with fail;go_loopw [4,5,6,7] (fun s4 s5 s6 s7 wr=>∃(k' n6 c6:Nat) (A6:Option Addr) (l:List Int) (s:Int),s4=D (some ⟨g,0,none⟩) (j+1) cap/\s5=B C k'/\k<=k'/\k'<=n/\0<=s/\s<=30/\n6<=k'/\s6=D A6 n6 c6/\s7=B C s /\
     Hid (l.length=n6/\wr.ownsRow wo.heap.size 3 1 (D A6 n6 c6) n6 (l.map (Value.int .i64))/\jf w1.heap.size 22 3 wo.heap.size wr (D (some ⟨g,0,none⟩) (j+1) cap) ls/\ab w1 wr/\vC (ps.map db) k k' ls l s/\wo.heap.size<=wr.heap.size)) (fun _ i _ _ _=>n-(intOf i).toNat)
    case atStart=>exact⟨k,0,0,none,[],0,rfl,rfl,zX _,hk,by omega,by omega,by omega,rfl,rfl,rfl,yZ _ _ _ _,HR.out.2.1,HR.out.2.2.1,.inl ⟨rfl,rfl,rfl⟩,zX _⟩
    case round =>
     obtain⟨k',n6,c6,A6,l,s,rfl,rfl,hkk,hk',hs0,hs30,hn6,rfl,rfl,HQ⟩:=hrel;have b2':=HQ.out.2.2.2.1.cell HB2.out;clear b2;by_cases hlt':k'<n
     ·obtain⟨b,off,cs0,q0,rfl,_⟩:=H.out.at_ hlt';obtain⟨q,c0,c1,c2,c3,c4,c5,hw,HX⟩:=(HI1.out.ext (bC.stab p) HQ.out.2.2.2.1).part hlt';have hnb:=qp q;go_wp2_with fail;refine (Gk q _).mono ?_;rintro e w2 ⟨rfl,hx2⟩;clear c0 c1 c2 c3 c4 c5 b2';have HN2:=zZ (HQ.out.2.2.1.ext hx2);have HO2:=zZ (ao HQ.out.2.1 hx2);have HE2:=zZ (HQ.out.2.2.2.1.trans hx2);have hsz2:wo.heap.size<=w2.heap.size:=yR HQ.out.2.2.2.2.2 hx2.size;generalize hxq:db q=x at *
      have HXN:Hid ((ps.map db)[k']?=some x):=by have:=nY HX.out;rw[hxq]at this;exact this
      clear hxq hx2;by_cases hf:s+x<=30
      ·go_wp2_with (at_builtin;refine aF _ rfl (.tmp 41) (.tmp 43) 22 rfl wo.heap.size 3 i0 _ 8 underlying22 hi0 hz0 hz1 hz2 rfl _ _ _ rfl (HO2.out.alloc _) _ _ rfl (by simp;rfl) rfl (by omega) (by omega) (by simp;omega) ?_;intro v' w3 hown' hg';obtain⟨g',cap',rfl,_,_⟩:=di hown' (by omega);have HN3:=zZ ((HN2.out.ext ((zE _).alloc _)).apart (by decide) (HO2.out.alloc _) hg');have HE3:=zZ (ab.grown (HE2.out.alloc _) hg' (fun k hk=>by have h1:=aq HO2.out k hk;have h2:=HR.out.2.2.1.size;omega));have HO3:=zZ hown';have hsz3:wo.heap.size<=w3.heap.size:=(by have:=hg'.size;simp at this;omega);clear hown' hg');go_roundw
       case rel =>exact⟨k'+1,n6+1,cap',_,l++[(k':Int)],s+x,rfl,by go_num,by omega,by omega,by omega,by omega,by omega,rfl,rfl,by have:=HQ.out.1;simp;omega,by simpa using HO3.out,HN3.out,HE3.out,HQ.out.2.2.2.2.1.take HR.out.2.2.2 HXN.out hf hkk,hsz3⟩
       case measure=>simp[intOf];omega
      ·have hf':30<s+x:=by omega
       have hkk':k<k':=by rcases HQ.out.2.2.2.2.1 with ⟨_,_,h⟩|⟨h,_⟩<;>omega
       clear hf;obtain⟨us,hus,hOS⟩:=HN2.out.own;have HOS:=zZ hOS;clear hOS;go_wp2_with (at_builtin;refine aF _ rfl (.tmp 34) (.tmp 36) 77 rfl w1.heap.size 22 iS _ 24 underlying77 hiS hy0 hy1 hy2 rfl _ (j+1) us rfl (by have:=HOS.out.alloc (.cells #[D A6 n6 c6] 22);rw[HR.out.1]at this;exact this) _ _ rfl (by simp;rfl) rfl (by omega) (by omega) (by have:=HE2.out.size;simp;omega) ?_;intro v' w3 hown' hg';obtain⟨g',cap',rfl,_,_⟩:=di hown' (by omega);have HN3:=zZ ((HN2.out.ext ((zE _).alloc (.cells #[D A6 n6 c6] 22))).push (by decide) (HOS.out.alloc _) (l:=l) (by rw[HQ.out.1];exact cd (HO2.out.alloc _) HR.out.2.2.1.size) hg' (by rw[HR.out.1];exact hown'));have HE3:=zZ (ab.grown (HE2.out.alloc _) hg' (fun k hk=>by have:=aq HOS.out k hk;omega));clear hown' hg');go_roundw
       case rel =>exact⟨k',j+1,g',cap',ls++[l],by omega,by omega,rfl,rfl,by have:=HR.out.1;simp;omega,HN3.out,HE3.out,HQ.out.2.2.2.2.1.out (x:=x) hkk' (fun y hy=>by rw[HXN.out]at hy;have:=xF hy;omega)⟩
       case measure=>simp[intOf];omega
     ·obtain rfl:k'=n:=by omega
      obtain⟨us,hus,hOS⟩:=HQ.out.2.2.1.own;have HOS:=zZ hOS;clear hOS;go_wp2_with (at_builtin;refine aF _ rfl (.tmp 47) (.tmp 49) 77 rfl w1.heap.size 22 iS _ 24 underlying77 hiS hy0 hy1 hy2 rfl _ (j+1) us rfl (by have:=HOS.out.alloc (.cells #[D A6 n6 c6] 22);rw[HR.out.1]at this;exact this) _ _ rfl (by simp;rfl) rfl (by omega) (by omega) (by have:=HQ.out.2.2.2.1.size;simp;omega) ?_;intro v' w3 hown' hg';obtain⟨g',cap',rfl,_,_⟩:=di hown' (by omega);have HN3:=zZ ((HQ.out.2.2.1.ext ((zE _).alloc (.cells #[D A6 n6 c6] 22))).push (by decide) (HOS.out.alloc _) (l:=l) (by rw[HQ.out.1];exact cd (HQ.out.2.1.alloc _) HR.out.2.2.1.size) hg' (by rw[HR.out.1];exact hown'));have HE3:=zZ (ab.grown (HQ.out.2.2.2.1.alloc _) hg' (fun k hk=>by have:=aq HOS.out k hk;omega));clear hown' hg');go_roundw
      case rel =>exact⟨k',j+1,g',cap',ls++[l],by omega,by omega,rfl,rfl,by have:=HR.out.1;simp;omega,HN3.out,HE3.out,HQ.out.2.2.2.2.1.out (x:=0) hlt (fun y hy=>by have h1:=(zY.1 hy).1;have h2:=HL.out;simp at h1;omega)⟩
      case measure=>simp[intOf];omega
   ·obtain rfl:k=n:=by omega
    have HPG:Hid (ls=iW (ps.map db)):=by
     rcases HR.out.2.2.2 with ⟨h,_⟩|⟨_,d,c',s,hg,hls,_⟩
     ·omega
     ·rw[hls];exact Co HL.out hg
    go_wp2_with fail;clear b2;go_loopw [4] (fun s4 wr=>∃(m g cap:Nat) (ls:List (List Int)),m<=30/\s4=D (some ⟨g,0,none⟩) (m+1) cap/\Hid (ls.length=m+1/\jf w1.heap.size 22 3 wr.heap.size wr (D (some ⟨g,0,none⟩) (m+1) cap) ls/\ab w1 wr/\Ev ls=ai ps)) (fun s _=>match s with|D _ m _=>(4-m%4)%4|_=>0)
    case atStart=>exact⟨j,g,cap,ls,by omega,rfl,HR.out.1,HR.out.2.1,HR.out.2.2.1,by unfold ai;rw[HPG.out]⟩
    case round =>
     obtain⟨m,g,cap,ls,hm,rfl,HQ⟩:=hrel;clear HR HPG;by_cases h4:(m+1)%4=0
     ·have e4:(((m:Int)+1)%4 != 0)=false:=by simp;omega
      have c0:wr.cell? ⟨w.heap.size+1,0,none⟩=some (D none 0 0):=by have:=HQ.out.2.2.1.blk HRC.out;simp at this;exact ac this rfl
      have f0:wr.frozen? ⟨w.heap.size+1,0,none⟩=false:=by have:=HQ.out.2.2.1.blk HRC.out;simp at this;exact ae this 0
      have HP:Hid (ls=ai ps):=by have:=HQ.out.2.2.2;rw[Hn (by rw[HQ.out.1];exact h4)]at this;exact this
      have HE:=zZ (HE1.out.trans HQ.out.2.2.1);have HISP:Hid (∀u,dn w.heap.size (wr.setCell ⟨w.heap.size+1,0,none⟩ u) (D (some ⟨g,0,none⟩) (m+1) cap) ls):=fun u=>dn.of_rowz (HQ.out.2.1.keep (w':=wr.setCell ⟨w.heap.size+1,0,none⟩ u) (by simp[World.setCell]) (fun k hk _=>yP _ _ _ _ (by show k≠w.heap.size+1;omega))) (by omega);have hlen:(ai ps).length=m+1:=by rw[<-HP.out];exact HQ.out.1
      have HLEN:=zZ hlen;clear h4 hlen;by_cases h12:12<m+1
      ·go_wp2_with fail;rw[Exit.noGoto_ret];refine bodyPost_ret (v:=.tuple #[.agg #[D none 0 0],B C 3]) (by simp[results,results43,go_sem,c0]) rfl ⟨_,[],3,rfl,dn.nil _ _,HE.out.setCell (by simp) _,fun h=>absurd (HV.out.symm.trans h) (by simp),fun _=>⟨fun _=>⟨rfl,rfl⟩,fun h=>absurd h (by have:=HLEN.out;omega)⟩⟩
      ·go_wp2_with fail;rw[Exit.noGoto_ret];refine bodyPost_ret (v:=.tuple #[.agg #[D (some ⟨g,0,none⟩) (m+1) cap],B C 0]) (by simp[results,results43,go_sem,c0]) rfl ⟨_,ai ps,0,rfl,?_,HE.out.setCell (by simp) _,fun h=>absurd (HV.out.symm.trans h) (by simp),fun _=>⟨fun h=>absurd h (by have:=HLEN.out;omega),fun _=>⟨rfl,rfl⟩⟩⟩;rw[<-HP.out];exact HISP.out _
     ·have e4:(((m:Int)+1)%4 != 0)=true:=by simp;omega
      have HP4:Hid (Ev (ls++[[]])=ai ps):=by rw[<-HQ.out.2.2.2];exact Ij (by rw[HQ.out.1];exact h4)
      obtain⟨us,hus,hOS⟩:=HQ.out.2.1.own;have HOS:=zZ hOS;clear hOS;have H4:=zZ h4;have hm10:m+1<=29:=by have h1:=congrArg List.length HQ.out.2.2.2;have h2:=(m7 ps).1;have h3:=HL.out;have h5:=HQ.out.1;unfold Ev at h1;simp at h1;omega
      clear h4;go_wp2_with (at_builtin;refine aF _ rfl (.tmp 55) (.tmp 56) 77 rfl w1.heap.size 22 iS _ 24 underlying77 hiS hy0 hy1 hy2 rfl _ (m+1) us rfl (by have:=HOS.out.alloc (.cells #[D none 0 0] 22);rw[HQ.out.1]at this;exact this) _ _ rfl (by simp;rfl) rfl (by omega) (by omega) (by have:=HQ.out.2.2.1.size;simp;omega) ?_;intro v' w3 hown' hg';obtain⟨g',cap',rfl,_,_⟩:=di hown' (by omega);have HN3:=zZ ((HQ.out.2.1.ext ((zE _).alloc (.cells #[D none 0 0] 22))).push (by decide) (HOS.out.alloc _) (l:=[]) (yZ _ _ _ _) hg' (by rw[HQ.out.1];exact hown'));have HE3:=zZ (ab.grown (HQ.out.2.2.1.alloc _) hg' (fun k hk=>by have:=aq HOS.out k hk;omega));clear hown' hg');go_roundw
      case rel=>exact⟨m+1,g',cap',ls++[[]],by omega,rfl,by have:=HQ.out.1;simp;omega,HN3.out,HE3.out,HP4.out⟩
      case measure=>have:=H4.out;show (4-(m+1+1)%4)%4<(4-(m+1)%4)%4;omega
def Mc(p:Nat)(w wx:World)(gS base:Nat)(cs:Array Value)(s:dl):Prop:=∃b,LF p w wx [(gS,cs,27)]/\pT wx base (.agg cs) { s with bk:=b }/\dU { s with bk:=b }/\ma { s with bk:=b }
theorem fL(v0:Value)(l0:List Int)(w:World)(h0:ak w.heap.size w v0 l0)(hT:cK w) :
  Calls prog 15 #[v0] w fun e w'=>e=.returned (.bool true)/\ab w w':=by
 have H0:=zZ h0;have HB:=zZ hT;clear h0 hT;go_enter func15,ntmps15
 go_wp2_with fail;refine (ib _ l0 _ H0.out).mono ?_;rintro e w1 ⟨rfl,HT1,HE1⟩;have HE:=zZ HE1;have HF1:Bx (LF w.heap.size w1 w1 []):=⟨LF.start HT1 (HB.out.ext HE1) HB.out.lt⟩
 clear HT1 HE1;go_wp2_with fail;refine (dp _ 0 _ HF1.out.fr.tp (by omega) (by omega)).mono ?_;rintro e w2 ⟨v2,rfl,⟨s,hsv,hwf,hok⟩,HT2,HX2⟩;have HOK:=zZ (hok rfl);obtain⟨AP,cP,AB,cB,AX,cX,rfl⟩:=hsv.forms;obtain⟨nP,hnP⟩:=nm s.pap.length;obtain⟨nX,hnX⟩:=nm s.xp.length;rw[HOK.out.bks,<-hnP,<-hnX]at hsv⊢;have HNP:Bx (s.pap.length=nP):=⟨hnP.symm⟩
 obtain⟨gB,rfl,hgB1,hgB2⟩:=hsv.gB (by have:=HOK.out.bks;have:=HOK.out.len;omega);have hP4:nP<=4:=by have:=HOK.out.len;omega
 obtain⟨gS,hgS⟩:=nm w2.heap.size;obtain⟨w3,hw3⟩:=nm ((w2.alloc (.cells #[B C s.num,D AP nP cP,D (some ⟨gB,0,none⟩) nP cB,D AX nX cX] 27)):World);have hx23:ab w2 w3:=by rw[hw3];exact (zE _).alloc _
 have HF3:Bx (LF w.heap.size w1 w3 [(gS,#[B C s.num,D AP nP cP,D (some ⟨gB,0,none⟩) nP cB,D AX nX cX],27)]):=⟨by rw[hw3];exact (HF1.out.step HX2 HT2).push _ _ hgS.symm⟩
 have HSV:Bx (Mc w.heap.size w1 w3 gS w1.heap.size #[B C s.num,D AP nP cP,D (some ⟨gB,0,none⟩) nP cB,D AX nX cX] s):=⟨⟨s.bk,HF3.out,hsv.xt (hx23.xt (p:=w.heap.size)) HF1.out.fr.hp,HOK.out,hwf⟩⟩
 have HGB:Bx (w1.heap.size<=gB/\gB<gS):=⟨hgB1,by omega⟩
 have HP1:Bx (w.heap.size<w1.heap.size):=⟨HF1.out.fr.hp⟩
 clear hsv hwf hok hnP hnX hgB1 hgB2;go_upto_region 3 with (fail)
 rw[<-hw3,<-hgS];clear hw3 hgS HT2 HX2 HF1 hx23 HOK HF3;go_wp2_with fail;go_loopw [5] (fun s5 wr=>∃k:Nat,s5=B C k/\k<=nP/\Bx (Mc w.heap.size w1 wr gS w1.heap.size #[B C s.num,D AP nP cP,D (some ⟨gB,0,none⟩) nP cB,D AX nX cX] s)) (fun s5 _=>nP-(intOf s5).toNat)
 case atStart=>exact⟨0,rfl,by omega,HSV⟩
 case round =>
  obtain⟨k,rfl,hk,HR⟩:=hrel;clear HSV;obtain⟨bks,hf,hv,hok,hwf⟩:=HR.out;have HFr:=zZ hf;have HV:=zZ hv;have HOK:=zZ hok;have HWF:=zZ hwf;clear hf hv hok hwf HR;have HSI:=zZ (HV.out.isSit HWF.out HP1.out);obtain⟨wa,rfl⟩:=nm wr;obtain⟨g0,g1,g2,g3⟩:=(HFr.out.at_ 0 rfl).p4 rfl;by_cases hkn:k<nP
  ·obtain⟨vP,vB,vX,hag,hP,hB,-,-⟩:=HSI.out;obtain⟨rfl,rfl⟩:vP=D AP nP cP/\vB=D (some ⟨gB,0,none⟩) nP cB:=by injection hag with hag;injection hag with hag;injection hag with _ hag;injection hag with e1 hag;injection hag with e2 _;exact⟨e1.symm,e2.symm⟩
   clear hag;obtain⟨bp,op,_,_,rfl,-⟩:=hP.at_ hkn;obtain⟨_,⟨qc,qv,qps⟩,-,hc0,⟨u,rfl,hq,-,-⟩,HQ⟩:=hP.cell_ hkn;obtain⟨_,ob,-,hd0,⟨ub,rfl,-⟩,-⟩:=hB.cell_ hkn;have q0:=hc0 0 _ rfl;have q1:=hc0 1 _ rfl;have q2:=hc0 2 _ rfl;have d0:=hd0 0 _ rfl;rw[yQ]at q0 d0;obtain⟨Aq,nq,cq,rfl,-⟩:=hq.open_;have HQQ:Bx (oa w.heap.size wa (D Aq nq cq) qps):=⟨hq⟩
   obtain⟨hm1,hm2,hm3⟩:=Mb HOK.out HQ.out;simp only at hm1 hm2 hm3;have HMK:Bx (jH qc qv qps (ai qps)=true/\(ai qps).length<=12/\fD qc qv qps=true):=⟨hm3,hm2,hm1⟩
   have hlq:Bx (qps.length<=6):=⟨(HWF.out.pap _ (zW HQ.out)).2.2.1⟩
   clear hP hB hc0 hd0 hq hm1 hm2 hm3;go_wp2_with fail;refine (yp qc qv _ qps _ HFr.out.lt HQQ.out).mono ?_;rintro e wb ⟨vb,pgs,er,rfl,hown,hxb,-,hmk⟩;obtain⟨rfl,rfl⟩:=(hmk HMK.out.2.2).2 HMK.out.2.1;obtain⟨Av,cv,rfl⟩:=hown.form;obtain⟨gb,hgb⟩:=nm wb.heap.size;obtain⟨w4,hw4⟩:=nm ((wb.alloc (.cells #[D Av (ai qps).length cv] 79)):World);have hxa:ab wa w4:=by rw[hw4];exact hxb.alloc _
   have HXA:=zZ hxa;have HOW:Bx (dn wa.heap.size w4 (D Av (ai qps).length cv) (ai qps)):=⟨by rw[hw4];exact hown.ext ((zE _).alloc _)⟩
   have HBB:Bx (Bk w4 gb #[D Av (ai qps).length cv] 79):=⟨by rw[hw4,hgb];exact Bk.new _ _ _⟩
   have HMB:Bx ((∀l∈ai qps,l.length<=24/\∀x∈l,0<=x/\x<24)):=⟨fun l hl=>by have h1:=(m7 qps).2 l hl;have h2:=hlq.out;exact⟨by omega,fun x hx=>by have:=h1.2 x hx;omega⟩⟩
   go_upto_region 7 with (fail)
   rw[<-hw4,<-hgb];clear hw4 hgb hxb hmk hown;replace g1:=hxa.cell g1;replace g2:=hxa.cell g2;replace q0:=hxa.cell q0;replace q1:=hxa.cell q1;replace q2:=hxa.cell q2;have b0:=HBB.out.c 0 rfl;clear hxa g0 g3 d0;refine zQ 99 fun wd kS=>?_;refine zS 9 [(0,36),(1,37),(2,38),(3,39),(4,40),(5,41),(6,42),(7,43),(8,44)] kS ?_;iterate 9 refine zT ?_ (y:=by intro wk hk;obtain⟨_,_,_,_,_⟩:=zkc5 hk g1 q0 q1 q2 b0;go_simp;try with_reducible rfl)
   refine zN (zO 9 (fun K hK=>?_));go_simp;refine (kY qc qv _ _ qps (ai qps) _ (p:=w.heap.size) (HQQ.out.ext (bC.stab _) (HXA.out.trans kS)) ((HOW.out.isP HFr.out.lt (fun l hl x hx=>by have:=(HMB.out l hl).2 x hx;constructor<;>omega) (fun l hl=>by have:=(HMB.out l hl).1;omega)).ext (RI.stab _) kS)).mono ?_;rintro e w5 ⟨rfl,hx5⟩;have kS2:ab w4 w5:=kS.trans hx5;rw[HMK.out.1];refine hK.out _ _ (fun _=>kS2) ?_;clear hK K;try simp only[kA]
   refine zS 2 [(10,46),(11,47)] kS2 ?_;iterate 2 refine zT ?_ (y:=by intro wk hk;obtain⟨_,_,_,_,_⟩:=zkc5 hk g1 q0 q1 q2 b0;go_simp;try with_reducible rfl)
   refine zN (zD ?_);have HX5:Bx (ab wa w5):=⟨HXA.out.trans kS2⟩
   have HV5:=zZ (HV.out.xt (HX5.out.xt (p:=w.heap.size)) HP1.out);have HF5:=zZ (HFr.out.ext HX5.out);have HO5:Bx (dn w1.heap.size w5 (D Av (ai qps).length cv) (ai qps)):=⟨(HOW.out.ext kS2).re HFr.out.fr.xt.size⟩
   have hb5:=HBB.out.ext kS2;have HSI5:=zZ (HV5.out.isSit HWF.out HP1.out);clear kS kS2 hx5 g1 g2 q0 q1 q2 b0;obtain⟨g0,g1,g2,g3⟩:=(HF5.out.at_ 0 rfl).p4 rfl;have b0:=hb5.c 0 rfl;obtain⟨vP,vB,vX,hag,-,hB,-,-⟩:=HSI5.out;obtain rfl:vB=D (some ⟨gB,0,none⟩) nP cB:=by injection hag with hag;injection hag with hag;injection hag with _ hag;injection hag with e1 hag;injection hag with e2 _;exact e2.symm
   obtain⟨_,ob,-,hd0,⟨ub,rfl,-⟩,-⟩:=hB.cell_ hkn;have d0:=hd0 0 _ rfl;have hfz:w5.frozen? ⟨gB,k,none⟩=false:=by obtain⟨_,_,_,_,_,hv',-,-,-,h4,-⟩:=HV5.out;injection hv' with hv';injection hv' with hv';injection hv' with _ hv';injection hv' with _ hv';injection hv' with e2 hv';subst e2;obtain⟨_,hb,-⟩:=rm h4;exact hb.froz _
   rw[wH,yQ,yV]at d0;clear hag hB hd0;have HFF:Bx (Mc w.heap.size w1 (w5.setCell ⟨gB,k,none⟩ (D Av (ai qps).length cv)) gS w1.heap.size #[B C s.num,D (some ⟨bp,op,none⟩) nP cP,D (some ⟨gB,0,none⟩) nP cB,D AX nX cX] s):=⟨⟨bks.set k (ai qps),HF5.out.far (fun i x hx=>by
    rcases i with _|i
    ·simp at hx;subst hx;have:=HGB.out;simp only;omega
    ·simp at hx) (by have:=HGB.out;simp only;omega) _,(by have h9:=pT.setBk (s:={ s with bk:=bks }) HV5.out hkn HO5.out;exact h9),HOK.out.setBk HQ.out HMK.out.1,HWF.out.setBk HMK.out.2.1 HMB.out⟩⟩
   go_wp2_with fail;go_roundw
   case rel=>exact⟨k+1,by go_num,by omega,HFF⟩
   case measure=>simp[intOf];omega
  ·obtain rfl:nP=k:=by omega
   obtain⟨s2,hs2⟩:=nm ({ s with bk:=bks }:dl);rw[<-hs2]at HSI HV HOK HWF;have HOK2:=zZ HOK.out;clear hs2;go_wp2_with fail;refine (E2 _ _ s2 _ HFr.out.fr.tp HSI.out HOK2.out).mono ?_;rintro e w4 ⟨v4,rfl,⟨ys,hrow,hwho⟩,HT4,HX4⟩;obtain⟨AC,cC,rfl⟩:=hrow.form;obtain⟨l,hl⟩:=nm (ys.map Prod.fst);obtain⟨nl,hnl⟩:=nm ys.length;have hll:nl=l.length:=by rw[hl,hnl,zJ]
   have hc4:=hrow.isCs HFr.out.lt;rw[<-hl]at hwho hc4;rw[<-hnl]at hc4⊢;have HWH:=zZ hwho;have hn60:nl<=60:=by rw[hll];exact IE hwho HWF.out
   have HLN:=zZ hll;have HC4:Bx (au w.heap.size w4 (D AC nl cC) l):=⟨hc4⟩
   have HF4:=bx (HFr.out.step HX4 HT4);have HS4:=bx (HSI.out.xt HX4);clear hrow hl hnl hll hwho HT4 HX4 hc4 g0 g1 g2 g3 HFr HV HSI;go_wp2_with fail;refine (Fi _ nl _ HF4.out.fr.tp (by omega)).mono ?_;rintro e w5 ⟨v5,rfl,hmx,HT5,HX5⟩;obtain⟨Ao,no,co,ol,rfl,hio,holn,hno,hmem⟩:=hmx.isI HF4.out.lt (by omega);have HO5:Bx (ak w.heap.size w5 (D Ao no co) ol):=⟨hio⟩
   have HM5:Bx ((∀y,y∈ol↔0<=y/\y<(nl:Int))/\ol.length=no):=⟨hmem,holn⟩
   have HF5:=bx (HF4.out.step HX5 HT5);have HS5:=bx (HS4.out.xt HX5);have HC5:Bx (au w.heap.size w5 (D AC nl cC) l):=⟨bj.xt HC4.out (bR.stab _) HX5⟩
   clear hmx hio holn hmem HT5 HX5 HF4 HS4 HC4;obtain⟨iC,hiC,hC0,hC1,hC2⟩:=info_parts Tryz.infoCap;go_wp2_with fail;go_loopw [10,11] (fun s7 s8 wr=>∃(k:Nat) (m:List aj),s8=B C k/\k<=no/\Bx (EB w.heap.size w5 wr s7 ol l k m)) (fun _ s8 _=>no-(intOf s8).toNat)
   case atStart=>exact⟨0,[],rfl,by omega,⟨EB.nil⟩⟩
   case round =>
    obtain⟨k,m,rfl,hk,HM⟩:=hrel;by_cases hkn:k<no
    ·obtain⟨bo,oo,x,rfl,x0,HXO,-⟩:=HO5.out.at_ hkn;replace x0:=HM.out.2.2.2.cell x0;obtain⟨hx0,hx1⟩:=(HM5.out.1 x).1 (zW HXO.out);obtain⟨j,rfl⟩:=zG hx0;have hjn:j<nl:=by omega
     obtain⟨b,off,_,_,rfl,-⟩:=HC5.out.at_ hjn;obtain⟨xt,xs,xq,xk,xct,xts,xtq,xlp,xlc,xlg,xlv,xstr,xch,xA,xn,xcc,HX,hcx,hix,hwx⟩:=au.read HC5.out (XT.refl w.heap.size w5) hjn;obtain⟨e0,e1,e2,e3,e4,e5,e6,e7,e8,e9,e10,e11,e12⟩:=hcx.ext HM.out.2.2.2;have HIX:Bx (bR w.heap.size w5 #[B C xt,B C xs,B C xq,B C xk,.string (ba xstr),B C xct,D xA xn xcc,B C xts,B C xtq,B C xlp,B C xlc,B C xlg,B C xlv].toList ⟨⟨xt,xs,xq⟩,xk,xstr,xct,xch,⟨xts,xtq⟩,⟨xlp,xlc,xlg,xlv⟩⟩):=⟨⟨D xA xn xcc,by simp[aj.cells,J6],hix,hwx⟩⟩
     clear hix hwx hcx hx0 hx1;go_wp2_with (at_builtin;go_loud (refine dq _ rfl (.tmp 66) (.tmp 74) 35 rfl w5.heap.size 47 iC _ 13 128 underlying35 hiC hC0 hC1 hC2 rfl (by omega) (bR w.heap.size w5) u10 m rfl (HM.out.1.ext ((zE _).alloc _)) _ #[B C xt,B C xs,B C xq,B C xk,.string (ba xstr),B C xct,D xA xn xcc,B C xts,B C xtq,B C xlp,B C xlc,B C xlg,B C xlv] _ ⟨⟨xt,xs,xq⟩,xk,xstr,xct,xch,⟨xts,xtq⟩,⟨xlp,xlc,xlg,xlv⟩⟩ rfl (heap_alloc_new _ _) rfl (by simp[Value.oneCell']) HIX.out (by have:=HM.out.2.1;omega) (by omega) (by have:=HM.out.2.2.2.size;simp;omega) ?_;intro v9 w9 hown9 hg9;have HM9:Bx (EB w.heap.size w5 w9 v9 ol l (k+1) (m++[⟨⟨xt,xs,xq⟩,xk,xstr,xct,xch,⟨xts,xtq⟩,⟨xlp,xlc,xlg,xlv⟩⟩])):=⟨HM.out.push hown9 ((HM.out.2.2.2.alloc _).grown hg9 HM.out.1.ge) HXO.out HX.out⟩;clear hown9 hg9));go_roundw
     case rel=>exact⟨k+1,_,by go_num,by omega,HM9⟩
     case measure=>simp[intOf];omega
    ·obtain rfl:k=no:=by omega
     have HMM:Bx (∀c,c∈m↔c∈l):=⟨fun c=>EB.mem (by have h:=HM.out;rw[<-HM5.out.2]at h;exact h) (by rw[<-HLN.out];exact HM5.out.1)⟩
     have HMC:Bx (au w.heap.size wr u10 m/\m.length<=300):=⟨HM.out.isCs HF5.out.lt,by have:=HM.out.2.1;omega⟩
     have HX56:=zZ HM.out.2.2.2;have HF6:=bx (HF5.out.ext HX56.out);have HS6:=bx (HS5.out.ext HX56.out);have HC6:Bx (au w.heap.size wr (D AC nl cC) l):=⟨bj.ext HC5.out (bR.stab _) HX56.out⟩
     obtain⟨Am,n4,cm,rfl,-⟩:=HMC.out.1.open_;obtain⟨w6,rfl⟩:=nm wr;clear HM HO5 HM5 HF5 HS5 HC5 HX56 hiC hC0 hC1 hC2;obtain⟨t,ht⟩:=nm (cQ s2 (ay m));obtain⟨p1,p2,p3,p4⟩:=C3 HWH.out HMM.out;rw[<-ht,<-HLN.out]at p1 p2;rw[<-ht]at p3 p4;have HT:=zZ ht;have HTL:Bx (t.sts.length=nl/\t.pgs.length=nl):=⟨p1,p2⟩
     have HT3:=zZ p3;have HT4:=zZ p4;have HCK:Bx (aC s2=0):=⟨iL.2 HOK2.out⟩
     clear ht p1 p2 p3 p4 HMM;obtain⟨z0,z1,z2,z3⟩:=(HF6.out.at_ 0 rfl).p4 rfl;go_wp2_with fail;refine (aW _ _ s2 m _ HF6.out.lt HF6.out.tb HS6.out HMC.out.1 HMC.out.2).mono ?_;rintro e wb ⟨⟨vI,rfl,hI⟩,hxs⟩;rw[show rM s2 m=t from by rw[HT.out];exact if_pos HCK.out]at hI;rw[HCK.out];obtain⟨AS,cS,AG,cG,rfl⟩:=hI.op;rw[HTL.out.1,HTL.out.2]at hI⊢;obtain⟨gI,hgI⟩:=nm wb.heap.size;obtain⟨w7,hw7⟩:=nm ((wb.alloc (.cells #[D AS nl cS,D AG nl cG] 59)):World);have HF7:Bx (LF w.heap.size w1 w7 [(gS,#[B C s.num,D AP nP cP,D (some ⟨gB,0,none⟩) nP cB,D AX nX cX],27),(gI,#[D AS nl cS,D AG nl cG],59)]):=⟨by rw[hw7];exact (HF6.out.ext hxs).push _ _ hgI.symm⟩
     have HI7:Bx (aK w.heap.size w7 (.agg #[D AS nl cS,D AG nl cG]) t):=⟨by rw[hw7];exact hI.ext ((zE _).alloc _)⟩
     go_upto_region 18 with (fail)
     rw[<-hw7,<-hgI];clear hw7 hgI hI hxs HF6 HS6 HC6 HMC z0 z1 z2 z3;have HSS:Bx (rA w.heap.size w7 (D AS nl cS) t.sts):=⟨by obtain⟨_,_,e,h,-⟩:=HI7.out;obtain⟨rfl,-⟩:=Kw e;exact h⟩
     have HGG:Bx (Ce w.heap.size w7 (D AG nl cG) t.pgs):=⟨by obtain⟨_,_,e,-,h⟩:=HI7.out;obtain⟨-,rfl⟩:=Kw e;exact h⟩
     obtain⟨i0,i1⟩:=(HF7.out.at_ 1 rfl).p2 rfl;have n1:((nl:Int)!=(nl:Int))=false:=by simp
     go_wp2_with fail;go_loopw [14] (fun s14 wr=>∃k:Nat,s14=B C k/\k<=nl/\Bx (ab w7 wr)) (fun s14 _=>nl-(intOf s14).toNat)
     case atStart=>exact⟨0,rfl,by omega,⟨zE _⟩⟩
     case round =>
      obtain⟨k,rfl,hk,HR⟩:=hrel;clear i0 i1;obtain⟨wa,rfl⟩:=nm wr;obtain⟨i0,i1⟩:=(((HF7.out.at_ 1 rfl).ext HR.out)).p2 rfl;by_cases hkn:k<nl
      ·obtain⟨b,off,_,_,rfl,-⟩:=HSS.out.at_ hkn;obtain⟨cs,⟨⟨ys,yq⟩,yt,⟨ya,yb,yc,yd⟩⟩,-,hc0,⟨hcs,-⟩,HY⟩:=(HSS.out.ext (cU.stab _) HR.out).cell_ hkn;obtain rfl:yt=1:=HT3.out _ (zW HY.out);have y2:=hc0 2 (B C 1) (by rw[hcs];rfl);clear hc0 hcs;go_wp2_with fail;go_roundw
       case rel=>exact⟨k+1,by go_num,by omega,HR⟩
       case measure=>simp[intOf];omega
      ·obtain rfl:k=nl:=by omega
       go_wp2_with fail;go_loopw [15] (fun s15 wr=>∃j:Nat,s15=B C j/\j<=k/\Bx (ab wa wr)) (fun s15 _=>k-(intOf s15).toNat)
       case atStart=>exact⟨0,rfl,by omega,⟨zE _⟩⟩
       case round =>
        obtain⟨j,rfl,hj,HQ⟩:=hrel;have HRQ:Bx (ab w7 wr):=⟨HR.out.trans HQ.out⟩
        clear i0 i1;obtain⟨i0,i1⟩:=(((HF7.out.at_ 1 rfl).ext HRQ.out)).p2 rfl;by_cases hjk:j<k
        ·obtain⟨bg,og,_,_,rfl,-⟩:=HGG.out.at_ hjk;obtain⟨xc,xg,xt,xs,xq,xch,xA,xm,xcc,HX,-,-,x0,x1,x2,x3,x4,x5⟩:=Ce.read HGG.out HRQ.out hjk;obtain⟨⟨hb1,hb2⟩,⟨hb3,hb4⟩,hb5⟩:=HT4.out _ (zW HX.out);simp only at hb1 hb2 hb3 hb4 hb5;have hm1:IntKind.i64.wrap (100*xc)=100*xc:=yN _ (by omega);have hm2:IntKind.i64.wrap (100*xc+xg)=100*xc+xg:=yN _ (by omega);subst hb5;have hm3:((100*xc+xg)!=(100*xc+xg))=false:=by simp
         go_upto_region 28 with (fail)
         refine zQ 99 fun wd kS=>?_;refine zS 21 [(0,121),(1,122),(2,123),(3,124),(4,125),(5,126),(6,127),(7,128),(8,129),(9,130),(10,131),(11,132),(12,133),(13,134),(14,135),(15,136),(16,137),(17,138),(18,139),(19,140),(20,141)] kS ?_;iterate 21 refine zT ?_ (y:=by intro wk hk;obtain⟨_,_,_,_⟩:=zkc4 hk i1 x0 x1 x2;go_simp;try with_reducible rfl)
         refine zN (zD ?_);have HQ2:Bx (ab wa wd):=⟨HQ.out.trans kS⟩
         clear kS i0 i1 x0 x1 x2 x3 x4 x5 hm1 hm2;go_wp2_with fail;go_roundw
         case rel=>exact⟨j+1,by go_num,by omega,HQ2⟩
         case measure=>simp[intOf];omega
        ·go_wp2_with fail;refine (cN _ (HF7.out.tb.ext HRQ.out)).mono ?_;rintro e w21 ⟨rfl,hx21⟩;go_wp2_with fail;go_ret
         exact⟨rfl,((HF7.out.fin HE.out).trans HRQ.out).trans hx21⟩
end Go.Proofs.YtkaajgoeahahpaaGreatDoor

