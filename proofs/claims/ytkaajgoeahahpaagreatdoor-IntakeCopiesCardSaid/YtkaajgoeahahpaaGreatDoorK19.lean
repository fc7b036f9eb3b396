import Derived.Test.YtkaajgoeahahpaaGreatDoorK7
import Derived.Test.YtkaajgoeahahpaaGreatDoorK18
set_option linter.all false
set_option maxRecDepth 100000
set_option maxHeartbeats 0
namespace Go.Proofs.YtkaajgoeahahpaaGreatDoor
open Go.Value renaming int→B,slice→D
open Go.IntKind renaming i64→C
open Go.RowKit _root_.Go.Proofs.Tryz
variable {a k p:Nat} {ns:List Int} {w:World} {v':Value} {num:Int}
def GL(w:World)(code var:Int)(ps:List av)(e:Ending)(w':World):Prop :=
 ∃(v:Value) (pgs:List (List Int)) (er:Int),e=.returned (.tuple #[.agg #[v],B C er])/\dn w.heap.size w' v pgs/\ab w w' /\
  (fD code var ps=false->pgs=[]/\er=1)/\(fD code var ps=true->(12<(ai ps).length->pgs=[]/\er=3)/\((ai ps).length<=12->pgs=ai ps/\er=0))
theorem C8(code var:Int)(v:Value)(ps:List av)(w:World)(hp:p<w.heap.size)(h:oa p w v ps) :
  Calls prog 47 #[.agg #[B C code,B C var,v]] w (GL w code var ps):=by
 obtain⟨A,n,c,rfl,hnc,hc,hnn,HL⟩:=h.open_;obtain⟨i0,hi0,hz0,hz1,hz2⟩:=info_parts Tryz.infoI;obtain⟨iS,hiS,hy0,hy1,hy2⟩:=info_parts Tryz.infoS;have H:=zZ h;clear h;cases hv:fD code var ps with
 |false =>
  have HV:=zZ hv;clear hv;go_enter func47,ntmps47
  go_wp2_with fail;refine (fc _ _ _ ps _ ((H.out.ext (bC.stab p) ((zE _).alloc _)).ext (bC.stab p) ((zE _).alloc _))).mono ?_;rintro e w1 ⟨rfl,hx1⟩;rw[HV.out];have c0:w1.cell? ⟨w.heap.size+1,0,none⟩=some (D none 0 0):=hx1.cell (by simp);have f0:w1.frozen? ⟨w.heap.size+1,0,none⟩=false:=(Below.frozen hx1.below (by simp)).trans (by simp);have HE:=zZ (ab.trans (((zE w).alloc _).alloc _) hx1);clear hx1;go_wp2_with fail;refine bodyPost_ret (v:=.tuple #[.agg #[D none 0 0],B C 1]) (by simp[results,results47,go_sem,c0]) rfl ⟨_,[],1,rfl,dn.nil _ _,?_,fun _=>⟨rfl,rfl⟩,fun h=>absurd (HV.out.symm.trans h) (by simp)⟩;exact HE.out.setCell (by simp) _
 |true =>
  have HV:=zZ hv;have hvp:=mD hv;obtain⟨_,_,_,_,hl1,hl24,hall,_⟩:=hvp;have HALL:=zZ hall;have hn1:1<=n:=by have:=HL.out;omega
  have hn24:n<=24:=by have:=HL.out;omega
  clear hv hall hl1 hl24;go_enter func47,ntmps47
  go_wp2_with fail;refine (fc _ _ _ ps _ ((H.out.ext (bC.stab p) ((zE _).alloc _)).ext (bC.stab p) ((zE _).alloc _))).mono ?_;rintro e w1 ⟨rfl,hx1⟩;rw[HV.out];have HE1:=zZ (ab.trans (((zE w).alloc _).alloc _) hx1);have b2:w1.cell? ⟨w.heap.size,2,none⟩=some (D A n c):=hx1.cell (by simp);have HB2:=zZ b2;have HRC:=zZ (hx1.blk (heap_alloc_new (w.alloc _) _));have HI1:=zZ (H.out.ext (bC.stab p) HE1.out);have hs1':w.heap.size+2<=w1.heap.size:=by have:=hx1.size;simp at this;omega
  clear hx1 b2;go_wp2_with fail;go_loopw [4,5,6] (fun s4 s5 s6 wr=>∃(k j g cap:Nat) (d:List (List Int)) (cu:List Int) (s:Int),k<=n/\0<=s/\s<=30/\j<=k+1/\s4=D (some ⟨g,0,none⟩) (j+1) cap/\s5=B C (30-s)/\s6=B C k /\
    Hid (gs (ps.map db) k=(d,cu,s)/\d.length=j/\cu.length<=k/\eU p w1.heap.size 22 3 wr (D (some ⟨g,0,none⟩) (j+1) cap) (d++[cu])/\ab w1 wr)) (fun _ _ i _=>n-(intOf i).toNat)
  case atStart=>exact⟨0,1,w1.heap.size,2,[[]],[],0,by omega,by omega,by omega,by omega,rfl,rfl,rfl,rfl,rfl,by simp,eU.two p w1 _ _ _ (zX _),(zE _).alloc _⟩
  case round =>
   obtain⟨k,j,g,cap,d,cu,s,hk,hs1,hs2,hjk,rfl,rfl,rfl,HR⟩:=hrel;have b2:=HR.out.2.2.2.2.cell HB2.out;by_cases hlt:k<n
   ·obtain⟨b,off,cs0,q0,rfl,_⟩:=H.out.at_ hlt;obtain⟨q,c0,c1,c2,c3,c4,c5,hw,HX⟩:=(HI1.out.ext (bC.stab p) HR.out.2.2.2.2).part hlt;have hnb:=qp q;go_wp2_with fail;refine (sA q _).mono ?_;rintro e w2 ⟨rfl,hx2⟩;clear c0 c1 c2 c3 c4 c5 b2;have HN2:=zZ (HR.out.2.2.2.1.ext hx2);have HE2:=zZ (HR.out.2.2.2.2.trans hx2);generalize hxq:db q=x at *
    have HXQ:=zZ hxq;clear hxq hx2;by_cases hf:s+x<=30
    ·obtain⟨Au,nu,ccu,HH,hcell,hnu,hbg,hbH,hHw,hou,hstep⟩:=HN2.out.step HR.out.2.1 (by decide);have HOU:=zZ hou;have HST:=zZ hstep;have hnuk:nu<=24:=by have:=HR.out.2.2.1;omega
     clear hou hstep;go_wp2_with (at_builtin;refine aF _ rfl (.tmp 41) (.tmp 43) 22 rfl HH 3 i0 _ 8 underlying22 hi0 hz0 hz1 hz2 rfl _ _ _ rfl (HOU.out.alloc _) _ _ rfl (by simp;rfl) rfl (by omega) (by omega) (by simp;omega) ?_;intro v' w3 hown' hg';obtain⟨g',cap',rfl,_,_⟩:=di hown' (by omega);obtain⟨hc3,hf3,hn3⟩:=HST.out _ _ _ _ ((zE _).alloc _) hg' hown';have HN3:=zZ hn3;have HE3:=zZ (ab.setCell (ab.grown (HE2.out.alloc _) hg' (fun k hk=>by have:=aq HOU.out k hk;omega)) (p:=⟨g,j,none⟩) hbg (D (some ⟨g',0,none⟩) (nu+1) cap'));clear hn3 hown' hg');go_roundw
     case rel =>exact⟨k+1,j,g,cap,d,cu++[(k:Int)],s+x,by omega,by omega,by omega,by omega,rfl,by go_num,by go_num,CV HR.out.1 (by rw[<-HXQ.out];exact nY HX.out) hf,HR.out.2.1,by have:=HR.out.2.2.1;simp;omega,HN3.out,HE3.out⟩
     case measure=>simp[intOf];omega
    ·have hf':30<s+x:=by omega
     clear hf;obtain⟨us,hus,hOS⟩:=HN2.out.own;have HOS:=zZ hOS;have hjd:(d++[cu]).length=j+1:=by have:=HR.out.2.1;simp;omega
     have HJD:=zZ hjd;clear hOS hjd;go_wp2_with (first
      |(at_builtin;refine aF _ rfl (.tmp 30) (.tmp 31) 77 rfl w1.heap.size 22 iS _ 24 underlying77 hiS hy0 hy1 hy2 rfl _ (j+1) us rfl (by have:=HOS.out.alloc (.cells #[D none 0 0] 22);rw[HJD.out]at this;exact this) _ _ rfl (by simp;rfl) rfl (by omega) (by omega) (by have:=HE2.out.size;simp;omega) ?_;intro v' w3 hown' hg';obtain⟨g',cap',rfl,_,_⟩:=di hown' (by omega);have HN3:=zZ ((HN2.out.ext ((zE _).alloc (.cells #[D none 0 0] 22))).new (by decide) (HOS.out.alloc _) hg' (by rw[HJD.out];exact hown'));have HE3:=zZ (ab.grown (HE2.out.alloc _) hg' (fun k hk=>by have:=aq HOS.out k hk;omega));clear hown' hg';obtain⟨Au,nu,ccu,HH,hcell,hnu,hbg,hbH,hHw,hou,hstep⟩:=HN3.out.step HJD.out (by decide);have HOU:=zZ hou;have HST:=zZ hstep;have hnu0:nu<=1:=(by simp at hnu;omega);clear hou hstep hnu)
      |(at_builtin;refine aF _ rfl (.tmp 41) (.tmp 43) 22 rfl HH 3 i0 _ 8 underlying22 hi0 hz0 hz1 hz2 rfl _ _ _ rfl (HOU.out.alloc _) _ _ rfl (by simp;rfl) rfl (by omega) (by omega) (by simp;omega) ?_;intro v'' w4 hown'' hg'';obtain⟨g4,cap4,rfl,_,_⟩:=di hown'' (by omega);obtain⟨hc4,hf4,hn4⟩:=HST.out _ _ _ _ ((zE _).alloc _) hg'' hown'';have HN4:=zZ hn4;have HE4:=zZ (ab.setCell (ab.grown (HE3.out.alloc _) hg'' (fun k hk=>by have:=aq HOU.out k hk;omega)) (p:=⟨g',j+1,none⟩) hbg (D (some ⟨g4,0,none⟩) (nu+1) cap4));clear hn4 hown'' hg''))
     go_roundw
     case rel =>exact⟨k+1,j+1,g',cap',d++[cu],[(k:Int)],x,by omega,by omega,by omega,by omega,rfl,by go_num,by go_num,CL HR.out.1 (by rw[<-HXQ.out];exact nY HX.out) hf',HJD.out,by simp,by simpa using HN4.out,HE4.out⟩
     case measure=>simp[intOf];omega
   ·obtain rfl:k=n:=by omega
    have hbdp:=qW ps;have HPG:=zZ (Co HL.out HR.out.1);clear hbdp;go_wp2_with fail;go_loopw [4] (fun s4 wr=>∃(m g cap:Nat) (ls:List (List Int)),m<=30/\s4=D (some ⟨g,0,none⟩) (m+1) cap/\Hid (ls.length=m+1/\eU p w1.heap.size 22 3 wr (D (some ⟨g,0,none⟩) (m+1) cap) ls/\ab w1 wr/\Ev ls=ai ps)) (fun s _=>match s with|D _ m _=>(4-m%4)%4|_=>0)
    case atStart=>exact⟨j,g,cap,d++[cu],by omega,rfl,by have:=HR.out.2.1;simp;omega,HR.out.2.2.2.1,HR.out.2.2.2.2,by unfold ai;rw[HPG.out]⟩
    case round =>
     obtain⟨m,g,cap,ls,hm,rfl,HQ⟩:=hrel;clear HR HPG;by_cases h4:(m+1)%4=0
     ·have e4:(((m:Int)+1)%4 != 0)=false:=by simp;omega
      have c0:wr.cell? ⟨w.heap.size+1,0,none⟩=some (D none 0 0):=by have:=HQ.out.2.2.1.blk HRC.out;simp at this;exact ac this rfl
      have f0:wr.frozen? ⟨w.heap.size+1,0,none⟩=false:=by have:=HQ.out.2.2.1.blk HRC.out;simp at this;exact ae this 0
      have HP:Hid (ls=ai ps):=by have:=HQ.out.2.2.2;rw[Hn (by rw[HQ.out.1];exact h4)]at this;exact this
      have HE:=zZ (HE1.out.trans HQ.out.2.2.1);have HISP:Hid (∀u,dn w.heap.size (wr.setCell ⟨w.heap.size+1,0,none⟩ u) (D (some ⟨g,0,none⟩) (m+1) cap) ls):=fun u=>dn.of_nest (HQ.out.2.1.keep (w':=wr.setCell ⟨w.heap.size+1,0,none⟩ u) (by simp[World.setCell]) (fun k hk _=>yP _ _ _ _ (by show k≠w.heap.size+1;omega))) (by omega);have hlen:(ai ps).length=m+1:=by rw[<-HP.out];exact HQ.out.1
      have HLEN:=zZ hlen;clear h4 hlen;by_cases h12:12<m+1
      ·go_wp2_with fail;refine bodyPost_ret (v:=.tuple #[.agg #[D none 0 0],B C 3]) (by simp[results,results47,go_sem,c0]) rfl ⟨_,[],3,rfl,dn.nil _ _,HE.out.setCell (by simp) _,fun h=>absurd (HV.out.symm.trans h) (by simp),fun _=>⟨fun _=>⟨rfl,rfl⟩,fun h=>absurd h (by have:=HLEN.out;omega)⟩⟩
      ·go_wp2_with fail;refine bodyPost_ret (v:=.tuple #[.agg #[D (some ⟨g,0,none⟩) (m+1) cap],B C 0]) (by simp[results,results47,go_sem,c0]) rfl ⟨_,ai ps,0,rfl,?_,HE.out.setCell (by simp) _,fun h=>absurd (HV.out.symm.trans h) (by simp),fun _=>⟨fun h=>absurd h (by have:=HLEN.out;omega),fun _=>⟨rfl,rfl⟩⟩⟩;rw[<-HP.out];exact HISP.out _
     ·have e4:(((m:Int)+1)%4 != 0)=true:=by simp;omega
      have HP4:Hid (Ev (ls++[[]])=ai ps):=by rw[<-HQ.out.2.2.2];exact Ij (by rw[HQ.out.1];exact h4)
      obtain⟨us,hus,hOS⟩:=HQ.out.2.1.own;have HOS:=zZ hOS;clear hOS;have H4:=zZ h4;have hm10:m+1<=29:=by have h1:=congrArg List.length HQ.out.2.2.2;have h2:=(m7 ps).1;have h3:=HL.out;have h5:=HQ.out.1;unfold Ev at h1;simp at h1;omega
      clear h4;go_wp2_with (at_builtin;refine aF _ rfl (.tmp 53) (.tmp 54) 77 rfl w1.heap.size 22 iS _ 24 underlying77 hiS hy0 hy1 hy2 rfl _ (m+1) us rfl (by have:=HOS.out.alloc (.cells #[D none 0 0] 22);rw[HQ.out.1]at this;exact this) _ _ rfl (by simp;rfl) rfl (by omega) (by omega) (by have:=HQ.out.2.2.1.size;simp;omega) ?_;intro v' w3 hown' hg';obtain⟨g',cap',rfl,_,_⟩:=di hown' (by omega);have HN3:=zZ ((HQ.out.2.1.ext ((zE _).alloc (.cells #[D none 0 0] 22))).new (by decide) (HOS.out.alloc _) hg' (by rw[HQ.out.1];exact hown'));have HE3:=zZ (ab.grown (HQ.out.2.2.1.alloc _) hg' (fun k hk=>by have:=aq HOS.out k hk;omega));clear hown' hg');go_roundw
      case rel=>exact⟨m+1,g',cap',ls++[[]],by omega,rfl,by have:=HQ.out.1;simp;omega,HN3.out,HE3.out,HP4.out⟩
      case measure=>have:=H4.out;show (4-(m+1+1)%4)%4<(4-(m+1)%4)%4;omega
def iv(a k:Nat):List Int:=(List.range k).map fun i=>((a+i:Nat):Int)
theorem DT(a k:Nat):iv a (k+1)=iv a k++[((a+k:Nat):Int)]:=by unfold iv;rw[xP];simp
theorem CC(a k:Nat):(iv a k).length=k:=by simp[iv]
theorem K0{i:Nat}{y:Int}(h:(iv a k)[i]?=some y):y=((a+i:Nat):Int):=by unfold iv at h;simp only[zP,yO]at h;obtain⟨j,hj,rfl⟩:=h;have:=zY.1 hj;obtain⟨h1,h2⟩:=this;simp at h2;omega
theorem Kj(h:a+k<=ns.length):nf ns a (iv a k) k:=⟨h,fun _ _ _ hy=>K0 hy⟩
theorem DS(h:a+k<=ns.length)(hl:nA ns a k<=30):oW ns a (iv a k):=by unfold oW;rw[CC];exact⟨Kj h,hl⟩
def DF(ns:List Int)(d:List (List Int))(a:Nat):Prop:=∀rest,eh ns 0 (d++rest)↔eh ns a rest
theorem EK(ns:List Int):DF ns [[]] 0:=by intro rest;simp[eh,oW,nf,nA]
theorem Dk{d:List (List Int)}{pg:List Int}(h:DF ns d a)(hp:oW ns a pg):DF ns (d++[pg]) (a+pg.length):=by intro rest;rw[xY,h];exact⟨fun x=>x.2,fun x=>⟨hp,x⟩⟩
theorem Ld(ns:List Int)(hn:∀x∈ns,0<=x/\x<=30):∀k,k<=ns.length->∃a,a<=k/\DF ns (gs ns k).1 a/\(gs ns k).2.1=iv a (k-a)/\(gs ns k).2.2=nA ns a (k-a)/\(gs ns k).2.2<=30/\∃t,(gs ns k).1=[]::t:=by
 intro k;induction k with
 |zero=>intro _;exact⟨0,by omega,EK ns,rfl,by simp[gs,nA],by simp[gs],[],rfl⟩
 |succ k ih =>
  intro hk;obtain⟨a,ha,h1,h2,h3,h4,t,h5⟩:=ih (by omega);have hkl:k<ns.length:=by omega
  have hx:ns[k]?=some ns[k]:=zV hkl;have hb:=hn _ (xC hkl);obtain⟨d,c,s,e⟩:∃d c s,gs ns k=(d,c,s):=⟨_,_,_,rfl⟩
  rw[e]at h1 h2 h3 h4 h5;simp only at h1 h2 h3 h4 h5;by_cases hf:s+ns[k]<=30
  ·rw[CV e hx hf];have ek:k+1-a=(k-a)+1:=by omega
   have eak:a+(k-a)=k:=by omega
   refine⟨a,by omega,h1,?_,?_,hf,t,h5⟩
   ·simp only;rw[ek,DT,h2,eak]
   ·simp only;rw[ek,lx (x:=ns[k]) (by rw[eak];exact hx),h3]
  ·rw[CL e hx (by omega)];refine⟨k,by omega,?_,?_,?_,by simp only;omega,t++[c],by simp only;rw[h5];rfl⟩
   ·simp only;have hp:oW ns a c:=by rw[h2];exact DS (by omega) (by rw[<-h3];exact h4)
    have:=Dk h1 hp;rw[h2,CC]at this;rw[h2];have e2:a+(k-a)=k:=by omega
    rw[e2]at this;exact this
   ·simp only;have:k+1-k=0+1:=by omega
    rw[this,DT];simp[iv]
   ·simp only;have:k+1-k=0+1:=by omega
    rw[this,lx (x:=ns[k]) (by simp),oN];omega
theorem BD(ns:List Int)(r:Nat):eh ns ns.length (List.replicate r []):=by
 induction r with
 |zero=>simp[eh]
 |succ r ih=>rw[vD];exact⟨⟨⟨by simp,fun i y hi=>by simp at hi⟩,by simp[nA]⟩,by simpa using ih⟩
theorem IL{code var:Int}{ps:List av}(hv:fD code var ps=true)(hl:(ai ps).length<=12):Fd code var ps (ai ps):=by
 obtain⟨a,ha,h1,h2,h3,h4,t,h5⟩:=Ld (ps.map db) (rY ps) (ps.map db).length (zX _);refine⟨hv,hl,?_,?_,?_⟩
 ·unfold ai Ev;simp;omega
 ·intro l hl';unfold ai Ev iW at hl';rw[h5]at hl';simp at hl';exact hl'
 ·unfold ai Ev iW;rw[xY,h1];rw[h2];refine⟨DS (by omega) (by rw[<-h3];exact h4),?_⟩;rw[CC];have e2:a+((ps.map db).length-a)=(ps.map db).length:=by omega
  rw[e2];exact BD _ _
theorem Tryz.infoPap:(prog.info? 84).map (fun i=>(i.zero,i.size,i.bytes))=some (some (.agg #[B C 0,B C 0,D none 0 0]),3,40):=by kernel_rfl
theorem Tryz.infoBk:(prog.info? 79).map (fun i=>(i.zero,i.size,i.bytes))=some (some (.agg #[D none 0 0]),1,24):=by kernel_rfl
theorem Tryz.infoXp:(prog.info? 90).map (fun i=>(i.zero,i.size,i.bytes))=some (some (.agg #[B C 0,B C 0,B C 0]),3,24):=by kernel_rfl
def gD(y:je×Value):List Value:=[B C y.1.code,B C y.1.var,y.2]
def CW(y:List (List Int)×Value):List Value:=[y.2]
theorem cO{w':World}{b1 e1 s1 n1 b2 e2 s2 n2:Nat}{v1 v2:Value}{x1 x2:List Value}(h:w.ownsRow b1 e1 s1 v1 n1 x1)(hz:w.ownsRow b2 e2 s2 v2 n2 x2)(hne:e1≠e2)(hg:w.grownBy w' v2.ownBlock):w'.ownsRow b1 e1 s1 v1 n1 x1 :=
 aJ h hg fun k hk=>cA h hz hne k hk
theorem eo{w':World}{g b2 e2 s2 n2:Nat}{t:TypeId}{cs:Array Value}{v2:Value}{x2:List Value}(h:Bk w g cs t)(hz:w.ownsRow b2 e2 s2 v2 n2 x2)(hne:t≠e2)(hg:w.grownBy w' v2.ownBlock):Bk w' g cs t :=
 h.grown hg (aG hz h hne)
structure aH (p:Nat) (w wx:World) (G:Nat) (num:Int) (aP aB aX vP vB vX:Value) (ys:List (je×Value)) (bs:List (List (List Int)×Value)) (xs:List fv):Prop where
 tp:bz wx p
 xt:XT p w wx
 r0:Bk wx w.heap.size #[B C 0,D none 0 0,D none 0 0,D none 0 0] 27
 bx:Bk wx G #[B C num,aP,aB,aX] 27
 hG:w.heap.size<G
 oP:da w.heap.size 84 3 gD wx vP ys
 oQ:∀y∈ys,dZ w.heap.size wx y.2 y.1.ps
 oB:da w.heap.size 79 1 CW wx vB bs
 oR:∀y∈bs,dn w.heap.size wx y.2 y.1
 oX:da w.heap.size 90 3 fv.cells wx vX xs
section
variable {p G:Nat} {w wx w' w1 w2:World} {num:Int} {aP aB aX vP vB vX:Value} {ys:List (je×Value)} {bs:List (List (List Int)×Value)} {xs:List fv}
theorem aH.step(h:aH p w wx G num aP aB aX vP vB vX ys bs xs)(hp:p<w.heap.size)(hx:XT p wx w')(ht:bz w' p):aH p w w' G num aP aB aX vP vB vX ys bs xs :=
 ⟨ht,h.xt.trans hx,h.r0.xt hx (by omega),h.bx.xt hx (by have:=h.hG;omega),h.hG,h.oP.xt hx hp,fun y hy=>dD (h.oQ y hy) hx hp,h.oB.xt hx hp,fun y hy=>(h.oR y hy).xt hx hp,h.oX.xt hx hp⟩
theorem aH.ext(h:aH p w wx G num aP aB aX vP vB vX ys bs xs)(hp:p<w.heap.size)(hx:ab wx w'):aH p w w' G num aP aB aX vP vB vX ys bs xs:=h.step hp hx.xt (h.tp.ext hx)
theorem aH.growP{y:je×Value}(h:aH p w wx G num aP aB aX vP vB vX ys bs xs)(hp:p<w.heap.size)(hg:wx.grownBy w2 vP.ownBlock)(h':w2.ownsRow w.heap.size 84 3 v' (ys.length+1) ((ys.map gD).flatten++gD y))(hq:dZ w.heap.size wx y.2 y.1.ps) :
  aH p w w2 G num aP aB aX v' vB vX (ys++[y]) bs xs :=
 ⟨h.tp.grown hg fun k hk=>by have:=aq h.oP.own k hk;omega,h.xt.grown hg (aq h.oP.own),eo h.r0 h.oP.own (by decide) hg,eo h.bx h.oP.own (by decide) hg,h.hG,da.push h',
  fun z hz=>by
   rcases zM.1 hz with hz|hz
   ·exact cO (h.oQ z hz) h.oP.own (by decide) hg
   ·obtain rfl:z=y:=by simpa using hz
    exact cO hq h.oP.own (by decide) hg,
  cO h.oB.own h.oP.own (by decide) hg,fun z hz=>(h.oR z hz).apart h.oP.own (by decide) (by decide) hg,cO h.oX.own h.oP.own (by decide) hg⟩
theorem aH.growB{y:List (List Int)×Value}(h:aH p w wx G num aP aB aX vP vB vX ys bs xs)(hp:p<w.heap.size)(hg:wx.grownBy w2 vB.ownBlock)(h':w2.ownsRow w.heap.size 79 1 v' (bs.length+1) ((bs.map CW).flatten++CW y))(hq:dn w.heap.size wx y.2 y.1) :
  aH p w w2 G num aP aB aX vP v' vX ys (bs++[y]) xs :=
 ⟨h.tp.grown hg fun k hk=>by have:=aq h.oB.own k hk;omega,h.xt.grown hg (aq h.oB.own),eo h.r0 h.oB.own (by decide) hg,eo h.bx h.oB.own (by decide) hg,h.hG,cO h.oP.own h.oB.own (by decide) hg,
  fun z hz=>cO (h.oQ z hz) h.oB.own (by decide) hg,da.push h',
  fun z hz=>by
   rcases zM.1 hz with hz|hz
   ·exact (h.oR z hz).apart h.oB.own (by decide) (by decide) hg
   ·obtain rfl:z=y:=by simpa using hz
    exact hq.apart h.oB.own (by decide) (by decide) hg,
  cO h.oX.own h.oB.own (by decide) hg⟩
theorem aH.growX{y:fv}(h:aH p w wx G num aP aB aX vP vB vX ys bs xs)(hp:p<w.heap.size)(hg:wx.grownBy w2 vX.ownBlock)(h':w2.ownsRow w.heap.size 90 3 v' (xs.length+1) ((xs.map fv.cells).flatten++y.cells)) :
  aH p w w2 G num aP aB aX vP vB v' ys bs (xs++[y]) :=
 ⟨h.tp.grown hg fun k hk=>by have:=aq h.oX.own k hk;omega,h.xt.grown hg (aq h.oX.own),eo h.r0 h.oX.own (by decide) hg,eo h.bx h.oX.own (by decide) hg,h.hG,cO h.oP.own h.oX.own (by decide) hg,
  fun z hz=>cO (h.oQ z hz) h.oX.own (by decide) hg,cO h.oB.own h.oX.own (by decide) hg,fun z hz=>(h.oR z hz).apart h.oX.own (by decide) (by decide) hg,da.push h'⟩
theorem aH.set{i:Nat}{u:Value}{num':Int}{aP' aB' aX':Value}(h:aH p w wx G num aP aB aX vP vB vX ys bs xs)(hp:p<w.heap.size)(he:#[Value.int .i64 num,aP,aB,aX].setIfInBounds i u=#[B C num',aP',aB',aX']) :
  aH p w (wx.setCell ⟨G,i,none⟩ u) G num' aP' aB' aX' vP vB vX ys bs xs:=by
 have hG:=h.hG;have hf:∀{e s n:Nat} {v:Value} {x:List Value},e≠27->wx.ownsRow w.heap.size e s v n x->(wx.setCell ⟨G,i,none⟩ u).ownsRow w.heap.size e s v n x:=fun hne hr=>aN (a:=⟨G,i,none⟩) hr (aG (b:=G) hr h.bx (Ne.symm hne)) u;refine⟨h.tp.setNew (by simp only;omega) u,h.xt.setNew (by simp only;omega) u,h.r0.far (by simp only;omega) u,?_,hG,hf (by decide) h.oP.own,fun y hy=>hf (by decide) (h.oQ y hy),hf (by decide) h.oB.own,fun y hy=>(h.oR y hy).far h.bx (by decide) (by decide) u,hf (by decide) h.oX.own⟩;have:=h.bx.set i u;rw[he]at this;exact this
theorem aH.setP{o:Nat}{g cap:Nat}{u:Value}{y y':je×Value}(h:aH p w wx G num aP aB aX (D (some ⟨g,0,none⟩) ys.length cap) vB vX ys bs xs)(hp:p<w.heap.size)(hy:ys[k]?=some y)(ho:o<3)(he:(gD y).set o u=gD y')(h2:y'.2=y.2)(h3:y'.1.ps=y.1.ps) :
  aH p w (wx.setCell ⟨g,k*3+o,none⟩ u) G num aP aB aX (D (some ⟨g,0,none⟩) ys.length cap) vB vX (ys.set k y') bs xs:=by
 obtain⟨hk,rfl⟩:=zY.1 hy;obtain⟨o3,g3⟩:=h.oP.own.stored (k*3+o) u;have hfl:((ys.map gD).flatten).set (k*3+o) u=((ys.set k y').map gD).flatten:=by
  have key:∀(l:List (je×Value)) (k:Nat) (hk:k<l.length),(gD l[k]).set o u=gD y'->((l.map gD).flatten).set (k*3+o) u=((l.set k y').map gD).flatten:=by
   intro l;induction l with
   |nil=>intro k hk;simp at hk
   |cons a l ih =>
    intro k hk he;have ha:(gD a).length=3:=rfl;cases k with
    |zero =>
     rw[wK,wA,vQ,yV,List.set_append_left _ _ (by rw[ha];exact ho)];rw[show (gD a).set o u=gD y' from he];rfl
    |succ k =>
     rw[wK,wA,vO _ _ (by rw[ha];omega),ha,show (k+1)*3+o-3=k*3+o by omega,ih k (by simpa using hk) he];rfl
  exact key ys k hk he
 have hlen:(ys.set k y').length=ys.length:=by simp
 have kp:∀{e s n:Nat} {v:Value} {x:List Value},e≠84->wx.ownsRow w.heap.size e s v n x->(wx.setCell ⟨g,k*3+o,none⟩ u).ownsRow w.heap.size e s v n x:=fun hne hr=>aJ hr g3 fun q hq e'=>cA hr h.oP.own hne q hq (by simpa[Value.ownBlock] using e');have hge:w.heap.size<=g:=aq h.oP.own g (by simp[Value.ownBlock]);refine⟨h.tp.setNew (by simp only;omega) u,h.xt.setNew (by simp only;omega) u,h.r0.grown g3 ?_,h.bx.grown g3 ?_,h.hG,?_,fun z hz=>?_,kp (by decide) h.oB.own,fun z hz=>?_,kp (by decide) h.oX.own⟩
 ·have:=aG h.oP.own h.r0 (by decide);simpa[Value.ownBlock] using this
 ·have:=aG h.oP.own h.bx (by decide);simpa[Value.ownBlock] using this
 ·unfold da;rw[hlen,<-hfl];exact o3
 ·rcases uW hz with hz|rfl
  ·exact kp (by decide) (h.oQ z hz)
  ·rw[h2,h3];exact kp (by decide) (h.oQ _ (xC hk))
 ·exact (h.oR z hz).keep fun he k=>kp (by rcases he with rfl|rfl<;>decide) k
end
theorem aH.dropP{G:Nat}{wx:World}{aP aB aX vP vB vX:Value}{ys:List (je×Value)}{bs:List (List (List Int)×Value)}{xs:List fv}(h:aH p w wx G num aP aB aX vP vB vX ys bs xs):aH p w wx G num aP aB aX (D none 0 0) vB vX [] bs xs :=
 ⟨h.tp,h.xt,h.r0,h.bx,h.hG,da.nil,fun y hy=>by simp at hy,h.oB,h.oR,h.oX⟩
def pT(w:World)(base:Nat)(v:Value)(s:dl):Prop:=∃vP vB vX ys bs,v=.agg #[B C s.num,vP,vB,vX]/\da base 84 3 gD w vP ys/\ys.map Prod.fst=s.pap/\(∀y∈ys,dZ base w y.2 y.1.ps) /\
 da base 79 1 CW w vB bs/\bs.map Prod.fst=s.bk/\(∀y∈bs,dn base w y.2 y.1)/\da base 90 3 fv.cells w vX s.xp
structure ma (s:dl):Prop where
 num:-1<=s.num/\s.num<=32
 papn:s.pap.length<=2
 pap:∀q∈s.pap,aU q.code/\aU q.var/\q.ps.length<=6/\(∀r∈q.ps,r.wf)
 bkn:s.bk.length<=3
 bk:∀b∈s.bk,b.length<=12/\∀l∈b,l.length<=24/\∀x∈l,0<=x/\x<24
 xpn:s.xp.length<=5
 xp:∀x∈s.xp,-1<=x.cand/\x.cand<=10000/\0<=x.cen/\x.cen<=100∧-1<=x.var/\x.var<=2
theorem pT.isSit{base:Nat}{v:Value}{s:dl}(h:pT w base v s)(hs:ma s)(hp:p<base):aR p w v s:=by
 obtain⟨vP,vB,vX,ys,bs,rfl,h1,h2,h3,h4,h5,h6,h7⟩:=h;refine⟨vP,vB,vX,rfl,?_,?_,?_,?_⟩
 ·rw[<-h2];refine bj.of_own (e:=84) (ys.map gD) (fun cs hcs=>by obtain⟨y,_,rfl⟩:=zF.1 hcs;rfl) (by decide) (by simp) (by rw[zJ];exact h1.own) hp ?_;intro k cs x hcs hx;simp only[zP,yO]at hcs hx;obtain⟨y,hy,rfl⟩:=hcs;obtain⟨z,hz,rfl⟩:=hx;rw[hy]at hz;injection hz with hz;subst hz
  have hm:=zW hy;have hb:=hs.pap y.1 (by rw[<-h2];exact zF.2 ⟨y,hm,rfl⟩);exact⟨y.2,rfl,(h3 y hm).isQ hp hb.2.2.2,hb.1,hb.2.1⟩
 ·rw[<-h5];refine bj.of_own (e:=79) (bs.map CW) (fun cs hcs=>by obtain⟨y,_,rfl⟩:=zF.1 hcs;rfl) (by decide) (by simp) (by rw[zJ];exact h4.own) hp ?_;intro k cs x hcs hx;simp only[zP,yO]at hcs hx;obtain⟨y,hy,rfl⟩:=hcs;obtain⟨z,hz,rfl⟩:=hx;rw[hy]at hz;injection hz with hz;subst hz
  have hm:=zW hy;have hb:=hs.bk y.1 (by rw[<-h5];exact zF.2 ⟨y,hm,rfl⟩);exact⟨y.2,rfl,(h6 y hm).isP hp (fun l hl x hx=>by have:=(hb.2 l hl).2 x hx;constructor<;>omega) (fun l hl=>by have:=(hb.2 l hl).1;omega)⟩
 ·exact h7.isS hp (by decide) (fun x _=>rfl) fun x hx=>⟨rfl,by have:=hs.xp x hx;unfold fv.wf aU;omega⟩
 ·have:=hs.num;constructor<;>omega
def CK(ys:List (je×Value)):Prop:=ys.length<=2/\∀y∈ys,aU y.1.code/\aU y.1.var/\y.1.ps.length<=6/\(∀r∈y.1.ps,r.wf)
def FI(n:Nat)(bs:List (List (List Int)×Value)):Prop:=bs.length<=n/\∀b∈bs,b.1.length<=12/\∀l∈b.1,l.length<=24/\∀x∈l,0<=x/\x<24
def Kv(n:Nat)(xs:List fv):Prop:=xs.length<=n/\∀x∈xs,-1<=x.cand/\x.cand<=10000/\0<=x.cen/\x.cen<=100∧-1<=x.var/\x.var<=2
theorem kB{ys:List (je×Value)}{bs:List (List (List Int)×Value)}{xs:List fv}(h1:-1<=num/\num<=32)(h2:CK ys)(h3:FI 3 bs)(h4:Kv 5 xs):ma ⟨num,ys.map Prod.fst,bs.map Prod.fst,xs⟩ :=
 ⟨h1,by simpa using h2.1,fun q hq=>by obtain⟨y,hy,rfl⟩:=zF.1 hq;exact h2.2 y hy,by simpa using h3.1,fun b hb=>by obtain⟨y,hy,rfl⟩:=zF.1 hb;exact h3.2 y hy,h4.1,h4.2⟩
theorem aH.fin{G:Nat}{wx:World}{vP vB vX:Value}{ys:List (je×Value)}{bs:List (List (List Int)×Value)}{xs:List fv}(h:aH p w wx G num vP vB vX vP vB vX ys bs xs)(hp:p<w.heap.size)(u0 u1 u2 u3:Value) :
  pT ((((wx.setCell ⟨w.heap.size,0,none⟩ u0).setCell ⟨w.heap.size,1,none⟩ u1).setCell ⟨w.heap.size,2,none⟩ u2).setCell ⟨w.heap.size,3,none⟩ u3) w.heap.size (.agg #[B C num,vP,vB,vX]) ⟨num,ys.map Prod.fst,bs.map Prod.fst,xs⟩ /\
  bz ((((wx.setCell ⟨w.heap.size,0,none⟩ u0).setCell ⟨w.heap.size,1,none⟩ u1).setCell ⟨w.heap.size,2,none⟩ u2).setCell ⟨w.heap.size,3,none⟩ u3) p /\
  XT p w ((((wx.setCell ⟨w.heap.size,0,none⟩ u0).setCell ⟨w.heap.size,1,none⟩ u1).setCell ⟨w.heap.size,2,none⟩ u2).setCell ⟨w.heap.size,3,none⟩ u3):=by
 have hf:∀{e s n:Nat} {v:Value} {x:List Value},e≠27->wx.ownsRow w.heap.size e s v n x->((((wx.setCell ⟨w.heap.size,0,none⟩ u0).setCell ⟨w.heap.size,1,none⟩ u1).setCell ⟨w.heap.size,2,none⟩ u2).setCell ⟨w.heap.size,3,none⟩ u3).ownsRow w.heap.size e s v n x:=fun hne hr=>by have ha:=aG (b:=w.heap.size) hr h.r0 (Ne.symm hne);exact aN (a:=⟨w.heap.size,3,none⟩) (aN (a:=⟨w.heap.size,2,none⟩) (aN (a:=⟨w.heap.size,1,none⟩) (aN (a:=⟨w.heap.size,0,none⟩) hr ha u0) ha u1) ha u2) ha u3
 refine⟨⟨vP,vB,vX,ys,bs,rfl,hf (by decide) h.oP.own,rfl,fun y hy=>hf (by decide) (h.oQ y hy),hf (by decide) h.oB.own,rfl,fun y hy=>(h.oR y hy).keep fun he k=>hf (by rcases he with rfl|rfl<;>decide) k,hf (by decide) h.oX.own⟩,(((h.tp.setNew hp _).setNew hp _).setNew hp _).setNew hp _,((((h.xt.setNew (zX _) _).setNew (zX _) _).setNew (zX _) _).setNew (zX _) _)⟩
abbrev BL:=List (Nat×Array Value×TypeId)
structure dV (w wx:World) (L:BL):Prop where
 bk:∀(k:Nat) b cs t,L[k]?=some (b,cs,t)->w.heap.size<=b/\Bk wx b cs t
 df:∀(i j:Nat) x y,L[i]?=some x->L[j]?=some y->i≠j->x.1≠y.1
section
variable {p:Nat} {w wx w':World} {L:BL} {b:Nat} {cs:Array Value} {t:TypeId}
theorem dV.nil(w wx:World):dV w wx []:=⟨fun k b cs t h=>by simp at h,fun i j x y h=>by simp at h⟩
theorem dV.at_(h:dV w wx L)(k:Nat)(hk:L[k]?=some (b,cs,t)):Bk wx b cs t:=(h.bk k b cs t hk).2
theorem dV.ge(h:dV w wx L)(k:Nat)(hk:L[k]?=some (b,cs,t)):w.heap.size<=b:=(h.bk k b cs t hk).1
theorem dV.lt(h:dV w wx L)(k:Nat)(hk:L[k]?=some (b,cs,t)):b<wx.heap.size:=(h.bk k b cs t hk).2.lt
theorem dV.ne(h:dV w wx L)(i j:Nat){b':Nat}{cs':Array Value}{t':TypeId}(hi:L[i]?=some (b,cs,t))(hj:L[j]?=some (b',cs',t'))(hij:i≠j):b≠b':=h.df i j _ _ hi hj hij
theorem dV.ext(h:dV w wx L)(hx:ab wx w'):dV w w' L:=⟨fun k b cs t hk=>⟨(h.bk k b cs t hk).1,(h.bk k b cs t hk).2.ext hx⟩,h.df⟩
theorem dV.xt(h:dV w wx L)(hx:XT p wx w')(hp:p<w.heap.size):dV w w' L:=⟨fun k b cs t hk=>⟨(h.bk k b cs t hk).1,(h.bk k b cs t hk).2.xt hx (by have:=(h.bk k b cs t hk).1;omega)⟩,h.df⟩
theorem dV.new(h:dV w wx L)(hs:w.heap.size<=wx.heap.size)(cs:Array Value)(t:TypeId):dV w (wx.alloc (.cells cs t)) (L++[(wx.heap.size,cs,t)]):=by
 have hlt:∀(k:Nat) x,L[k]?=some x->x.1<wx.heap.size:=fun k x hk=>(h.bk k x.1 x.2.1 x.2.2 hk).2.lt;refine⟨fun k b cs' t' hk=>?_,fun i j x y hi hj hij=>?_⟩
 ·rcases zU k L.length with hl|hl
  ·rw[yY hl]at hk;exact⟨(h.bk k b cs' t' hk).1,(h.bk k b cs' t' hk).2.alloc _⟩
  ·rw[yL hl]at hk;have hj:k-L.length=0:=by have:=(zY.1 hk).1;simp at this;omega
   rw[hj]at hk;simp at hk;obtain⟨rfl,rfl,rfl⟩:=hk;exact⟨hs,Bk.new wx _ _⟩
 ·rcases zU i L.length with hl|hl<;>rcases zU j L.length with hl'|hl'
  ·rw[yY hl]at hi;rw[yY hl']at hj;exact h.df i j x y hi hj hij
  ·rw[yY hl]at hi;rw[yL hl']at hj;have hj0:j-L.length=0:=by have:=(zY.1 hj).1;simp at this;omega
   rw[hj0]at hj;simp at hj;subst hj;have:=hlt i x hi;simp only;omega
  ·rw[yL hl]at hi;rw[yY hl']at hj;have hi0:i-L.length=0:=by have:=(zY.1 hi).1;simp at this;omega
   rw[hi0]at hi;simp at hi;subst hi;have:=hlt j y hj;simp only;omega
  ·have h1:i-L.length=0:=by have:=(zY.1 hi).1;simp at this;omega
   have h2:j-L.length=0:=by have:=(zY.1 hj).1;simp at this;omega
   omega
theorem dV.set(h:dV w wx L)(k:Nat)(hk:L[k]?=some (b,cs,t))(i:Nat)(u:Value):dV w (wx.setCell ⟨b,i,none⟩ u) (L.set k (b,cs.setIfInBounds i u,t)):=by
 have hkl:=(zY.1 hk).1;have hb:∀(j:Nat) x,(L.set k (b,cs.setIfInBounds i u,t))[j]?=some x->∃y,L[j]?=some y/\x.1=y.1/\(j≠k->x=y)/\(j=k->x=(b,cs.setIfInBounds i u,t)):=by
  intro j x hj;by_cases e:j=k
  ·subst e;rw[wU hkl]at hj;injection hj with hj;subst hj;exact⟨_,hk,rfl,fun e=>absurd rfl e,fun _=>rfl⟩
  ·rw[wW (Ne.symm e)]at hj;exact⟨x,hj,rfl,fun _=>rfl,fun e'=>absurd e' e⟩
 refine⟨fun j b' cs' t' hj=>?_,fun i' j x y hi hj hij=>?_⟩
 ·obtain⟨y,h1,h2,h3,h4⟩:=hb j _ hj;by_cases e:j=k
  ·have:=h4 e;injection this with a1 a2;injection a2 with a2 a3;subst a1;subst a2;subst a3;exact⟨(h.bk k _ _ _ hk).1,(h.bk k _ _ _ hk).2.set i u⟩
  ·have:=h3 e;subst this;exact⟨(h.bk j _ _ _ h1).1,(h.bk j _ _ _ h1).2.far (a:=⟨b,i,none⟩) (h.df j k _ _ h1 hk e) u⟩
 ·obtain⟨x',h1,h2,_⟩:=hb i' _ hi;obtain⟨y',h1',h2',_⟩:=hb j _ hj;rw[h2,h2'];exact h.df i' j x' y' h1 h1' hij
theorem dV.far(h:dV w wx L){a:Addr}(ha:∀(k:Nat) x,L[k]?=some x->x.1≠a.block)(u:Value):dV w (wx.setCell a u) L :=
 ⟨fun k b cs t hk=>⟨(h.bk k b cs t hk).1,(h.bk k b cs t hk).2.far (ha k _ hk) u⟩,h.df⟩
theorem dV.grown(h:dV w wx L){row:Option Nat}(hg:wx.grownBy w' row)(hr:∀(k:Nat) x,L[k]?=some x->row≠some x.1):dV w w' L :=
 ⟨fun k b cs t hk=>⟨(h.bk k b cs t hk).1,(h.bk k b cs t hk).2.grown hg (hr k _ hk)⟩,h.df⟩
theorem dV.take(h:dV w wx L)(n:Nat):dV w wx (L.take n):=by
 have hb:∀(k:Nat) x,(L.take n)[k]?=some x->L[k]?=some x:=by
  intro k x hk;rw[yB]at hk;split at hk
  ·exact hk
  ·cases hk
 exact⟨fun k b cs t hk=>h.bk k b cs t (hb k _ hk),fun i j x y hi hj hij=>h.df i j x y (hb i _ hi) (hb j _ hj) hij⟩
end
structure Fr (p:Nat) (w wx:World) (L:BL):Prop where
 tp:bz wx p
 xt:XT p w wx
 hp:p<w.heap.size
 bl:dV w wx L
section
variable {p:Nat} {w wx w':World} {L:BL} {b:Nat} {cs:Array Value} {t:TypeId}
theorem Fr.start(h:bz w p):Fr p w w []:=⟨h,XT.refl _ _,h.lt,dV.nil _ _⟩
theorem Fr.step(h:Fr p w wx L)(hx:XT p wx w')(ht:bz w' p):Fr p w w' L:=⟨ht,h.xt.trans hx,h.hp,h.bl.xt hx h.hp⟩
theorem Fr.ext(h:Fr p w wx L)(hx:ab wx w'):Fr p w w' L:=h.step hx.xt (h.tp.ext hx)
theorem Fr.new(h:Fr p w wx L)(cs:Array Value)(t:TypeId):Fr p w (wx.alloc (.cells cs t)) (L++[(wx.heap.size,cs,t)]) :=
 ⟨h.tp.ext ((zE _).alloc _),h.xt.alloc _,h.hp,h.bl.new h.xt.size cs t⟩
theorem Fr.push(h:Fr p w wx L)(cs:Array Value)(t:TypeId){n:Nat}(hn:wx.heap.size=n):Fr p w (wx.alloc (.cells cs t)) (L++[(n,cs,t)]):=hn▸h.new cs t
theorem Fr.set(h:Fr p w wx L)(k:Nat)(hk:L[k]?=some (b,cs,t))(i:Nat)(u:Value):Fr p w (wx.setCell ⟨b,i,none⟩ u) (L.set k (b,cs.setIfInBounds i u,t)) :=
 ⟨h.tp.setNew (by have:=h.bl.ge k hk;have:=h.hp;simp only;omega) u,h.xt.setNew (by have:=h.bl.ge k hk;simp only;omega) u,h.hp,h.bl.set k hk i u⟩
theorem Fr.at_(h:Fr p w wx L)(k:Nat)(hk:L[k]?=some (b,cs,t)):Bk wx b cs t:=h.bl.at_ k hk
theorem Fr.take(h:Fr p w wx L)(n:Nat):Fr p w wx (L.take n):=⟨h.tp,h.xt,h.hp,h.bl.take n⟩
theorem Fr.drew(h:Fr p w wx L):Fr p w wx.drew L:=h.ext ((zE _).drew)
theorem Fr.grown(h:Fr p w wx L){row:Option Nat}(hg:wx.grownBy w' row)(hr:∀(k:Nat) x,L[k]?=some x->row≠some x.1)(hb:∀k,row=some k->w.heap.size<=k):Fr p w w' L :=
 ⟨h.tp.grown hg (fun k hk=>by have:=hb k hk;have:=h.hp;omega),h.xt.grown hg hb,h.hp,h.bl.grown hg hr⟩
theorem Fr.lt(h:Fr p w wx L):p<wx.heap.size:=zB h.hp h.xt.size
end
structure aA (w wx:World) (L:BL):Prop where
 xt:ab w wx
 bl:dV w wx L
section
variable {w wx w':World} {L:BL} {b:Nat} {cs:Array Value} {t:TypeId}
theorem aA.start(w:World):aA w w []:=⟨zE _,dV.nil _ _⟩
theorem aA.ext(h:aA w wx L)(hx:ab wx w'):aA w w' L:=⟨h.xt.trans hx,h.bl.ext hx⟩
theorem aA.new(h:aA w wx L)(cs:Array Value)(t:TypeId):aA w (wx.alloc (.cells cs t)) (L++[(wx.heap.size,cs,t)]):=⟨h.xt.alloc _,h.bl.new h.xt.size cs t⟩
theorem aA.push(h:aA w wx L)(cs:Array Value)(t:TypeId){n:Nat}(hn:wx.heap.size=n):aA w (wx.alloc (.cells cs t)) (L++[(n,cs,t)]):=hn▸h.new cs t
theorem aA.set(h:aA w wx L)(k:Nat)(hk:L[k]?=some (b,cs,t))(i:Nat)(u:Value):aA w (wx.setCell ⟨b,i,none⟩ u) (L.set k (b,cs.setIfInBounds i u,t)) :=
 ⟨h.xt.setCell (by have:=h.bl.ge k hk;simp only;omega) u,h.bl.set k hk i u⟩
theorem aA.at_(h:aA w wx L)(k:Nat)(hk:L[k]?=some (b,cs,t)):Bk wx b cs t:=h.bl.at_ k hk
theorem aA.take(h:aA w wx L)(n:Nat):aA w wx (L.take n):=⟨h.xt,h.bl.take n⟩
theorem aA.drew(h:aA w wx L):aA w wx.drew L:=h.ext ((zE _).drew)
theorem aA.grown(h:aA w wx L){row:Option Nat}(hg:wx.grownBy w' row)(hr:∀(k:Nat) x,L[k]?=some x->row≠some x.1)(hb:∀k,row=some k->w.heap.size<=k):aA w w' L :=
 ⟨h.xt.grown hg hb,h.bl.grown hg hr⟩
end
section
variable {P:Program} {ops:Array Oper} {Q:Exit->Act->World->Prop} {md:Region.Mode} {S S':World->Prop} {k:Nat}
theorem kt(h:∀w,S' w->S w):∀(fuel:Nat) (listed:Array Bool) (a:Act) (w:World),cM P md ops Q S' k fuel listed a w->cM P md ops Q S k fuel listed a w
 |0,_,_,_,H=>H
 |fuel+1,_,_,_,H=>⟨H.1,fun i hi=>wpOp_mono (fun _ _ H'=>⟨fun hk=>h _ (H'.1 hk),kt h fuel _ _ _ H'.2⟩) (H.2 i hi)⟩
end
end Go.Proofs.YtkaajgoeahahpaaGreatDoor

