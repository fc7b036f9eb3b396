import Derived.Test.YtjgfgdcaocbfhaaGreatH4
set_option linter.all false
set_option maxRecDepth 100000
set_option maxHeartbeats 0
namespace Go.Proofs.YtjgfgdcaocbfhaaGreat
open Go.Value renaming int→B,slice→D
open Go.IntKind renaming i64→C
open Go.RowKit _root_.Go.Proofs.Tryz
variable {a k p:Nat} {ns:List Int} {w:World} {v':Value} {num:Int}
def DX(w:World)(code var:Int)(ps:List ai)(e:Ending)(w':World):Prop :=
 ∃(v:Value) (pgs:List (List Int)) (er:Int),e=.returned (.tuple #[.agg #[v],B C er])∧db w.heap.size w' v pgs∧ab w w' ∧
  (d9 code var ps=false→pgs=[]∧er=1)∧(d9 code var ps=true→(12<(af ps).length→pgs=[]∧er=3)∧((af ps).length≤12→pgs=af ps∧er=0))
theorem zw(code var:Int)(v:Value)(ps:List ai)(w:World)(hp:p<w.heap.size)(h:kr p w v ps) :
  Calls prog 49 #[.agg #[B C code,B C var,v]] w (DX w code var ps):=by
 obtain⟨A,n,c,rfl,hnc,hc,hnn,HL⟩:=h.open_;obtain⟨i0,hi0,hz0,hz1,hz2⟩:=info_parts Tryz.infoI;obtain⟨iS,hiS,hy0,hy1,hy2⟩:=info_parts Tryz.infoS;have H:=zZ h;clear h;cases hv:d9 code var ps with
 |false =>
  have HV:=zZ hv;clear hv;go_enter func49,ntmps49
  go_wp2_with fail;refine (dG _ _ _ ps _ ((H.out.ext (aI.stab p) ((zE _).alloc _)).ext (aI.stab p) ((zE _).alloc _))).mono ?_;rintro e w1 ⟨rfl,hx1⟩;rw[HV.out];have c0:w1.cell? ⟨w.heap.size+1,0,none⟩=some (D none 0 0):=hx1.cell (by simp);have f0:w1.frozen? ⟨w.heap.size+1,0,none⟩=false:=(Below.frozen hx1.below (by simp)).trans (by simp);have HE:=zZ (ab.trans (((zE w).alloc _).alloc _) hx1);clear hx1;go_wp2_with fail;refine bodyPost_ret (v:=.tuple #[.agg #[D none 0 0],B C 1]) (by simp[results,results49,go_sem,c0]) rfl ⟨_,[],1,rfl,db.nil _ _,?_,fun _=>⟨rfl,rfl⟩,fun h=>absurd (HV.out.symm.trans h) (by simp)⟩;exact HE.out.setCell (by simp) _
 |true =>
  have HV:=zZ hv;have hvp:=iV hv;obtain⟨_,_,_,_,hl1,hl24,hall,_⟩:=hvp;have HALL:=zZ hall;have hn1:1≤n:=by have:=HL.out;omega
  have hn24:n≤24:=by have:=HL.out;omega
  clear hv hall hl1 hl24;go_enter func49,ntmps49
  go_wp2_with fail;refine (dG _ _ _ ps _ ((H.out.ext (aI.stab p) ((zE _).alloc _)).ext (aI.stab p) ((zE _).alloc _))).mono ?_;rintro e w1 ⟨rfl,hx1⟩;rw[HV.out];have HE1:=zZ (ab.trans (((zE w).alloc _).alloc _) hx1);have b2:w1.cell? ⟨w.heap.size,2,none⟩=some (D A n c):=hx1.cell (by simp);have HB2:=zZ b2;have HRC:=zZ (hx1.blk (heap_alloc_new (w.alloc _) _));have HI1:=zZ (H.out.ext (aI.stab p) HE1.out);have hs1':w.heap.size+2≤w1.heap.size:=by have:=hx1.size;simp at this;omega
  clear hx1 b2;go_wp2_with fail;go_loopw [4,5,6] (fun s4 s5 s6 wr=>∃(k j g cap:Nat) (d:List (List Int)) (cu:List Int) (s:Int),k≤n∧0≤s∧s≤30∧j≤k+1∧s4=D (some ⟨g,0,none⟩) (j+1) cap∧s5=B C (30-s)∧s6=B C k ∧
    Hid (gs (ps.map cm) k=(d,cu,s)∧d.length=j∧cu.length≤k∧eE p w1.heap.size 22 3 wr (D (some ⟨g,0,none⟩) (j+1) cap) (d++[cu])∧ab w1 wr)) (fun _ _ i _=>n-(intOf i).toNat)
  case atStart=>exact⟨0,1,w1.heap.size,2,[[]],[],0,by omega,by omega,by omega,by omega,rfl,rfl,rfl,rfl,rfl,by simp,eE.two p w1 _ _ _ (zX _),(zE _).alloc _⟩
  case round =>
   obtain⟨k,j,g,cap,d,cu,s,hk,hs1,hs2,hjk,rfl,rfl,rfl,HR⟩:=hrel;have b2:=HR.out.2.2.2.2.cell HB2.out;by_cases hlt:k<n
   ·obtain⟨b,off,cs0,q0,rfl,_⟩:=H.out.at_ hlt;obtain⟨q,c0,c1,c2,c3,c4,c5,hw,HX⟩:=(HI1.out.ext (aI.stab p) HR.out.2.2.2.2).part hlt;have hnb:=nD q;go_wp2_with fail;refine (rx q _).mono ?_;rintro e w2 ⟨rfl,hx2⟩;clear c0 c1 c2 c3 c4 c5 b2;have HN2:=zZ (HR.out.2.2.2.1.ext hx2);have HE2:=zZ (HR.out.2.2.2.2.trans hx2);generalize hxq:cm q=x at *
    have HXQ:=zZ hxq;clear hxq hx2;by_cases hf:s+x≤30
    ·obtain⟨Au,nu,ccu,HH,hcell,hnu,hbg,hbH,hHw,hou,hstep⟩:=HN2.out.step HR.out.2.1 (by decide);have HOU:=zZ hou;have HST:=zZ hstep;have hnuk:nu≤24:=by have:=HR.out.2.2.1;omega
     clear hou hstep;go_wp2_with (at_builtin;refine al _ rfl (.tmp 41) (.tmp 43) 22 rfl HH 3 i0 _ 8 underlying22 hi0 hz0 hz1 hz2 rfl _ _ _ rfl (HOU.out.alloc _) _ _ rfl (by simp;rfl) rfl (by omega) (by omega) (by simp;omega) ?_;intro v' w3 hown' hg';obtain⟨g',cap',rfl,_,_⟩:=aQ hown' (by omega);obtain⟨hc3,hf3,hn3⟩:=HST.out _ _ _ _ ((zE _).alloc _) hg' hown';have HN3:=zZ hn3;have HE3:=zZ (ab.setCell (ab.grown (HE2.out.alloc _) hg' (fun k hk=>by have:=ar HOU.out k hk;omega)) (p:=⟨g,j,none⟩) hbg (D (some ⟨g',0,none⟩) (nu+1) cap'));clear hn3 hown' hg');go_roundw
     case rel =>exact⟨k+1,j,g,cap,d,cu++[(k:Int)],s+x,by omega,by omega,by omega,by omega,rfl,by go_num,by go_num,yz HR.out.1 (by rw[←HXQ.out];exact kY HX.out) hf,HR.out.2.1,by have:=HR.out.2.2.1;simp;omega,HN3.out,HE3.out⟩
     case measure=>simp[intOf];omega
    ·have hf':30<s+x:=by omega
     clear hf;obtain⟨us,hus,hOS⟩:=HN2.out.own;have HOS:=zZ hOS;have hjd:(d++[cu]).length=j+1:=by have:=HR.out.2.1;simp;omega
     have HJD:=zZ hjd;clear hOS hjd;go_wp2_with (first
      |(at_builtin;refine al _ rfl (.tmp 30) (.tmp 31) 90 rfl w1.heap.size 22 iS _ 24 underlying90 hiS hy0 hy1 hy2 rfl _ (j+1) us rfl (by have:=HOS.out.alloc (.cells #[D none 0 0] 22);rw[HJD.out]at this;exact this) _ _ rfl (by simp;rfl) rfl (by omega) (by omega) (by have:=HE2.out.size;simp;omega) ?_;intro v' w3 hown' hg';obtain⟨g',cap',rfl,_,_⟩:=aQ hown' (by omega);have HN3:=zZ ((HN2.out.ext ((zE _).alloc (.cells #[D none 0 0] 22))).new (by decide) (HOS.out.alloc _) hg' (by rw[HJD.out];exact hown'));have HE3:=zZ (ab.grown (HE2.out.alloc _) hg' (fun k hk=>by have:=ar HOS.out k hk;omega));clear hown' hg';obtain⟨Au,nu,ccu,HH,hcell,hnu,hbg,hbH,hHw,hou,hstep⟩:=HN3.out.step HJD.out (by decide);have HOU:=zZ hou;have HST:=zZ hstep;have hnu0:nu≤1:=(by simp at hnu;omega);clear hou hstep hnu)
      |(at_builtin;refine al _ rfl (.tmp 41) (.tmp 43) 22 rfl HH 3 i0 _ 8 underlying22 hi0 hz0 hz1 hz2 rfl _ _ _ rfl (HOU.out.alloc _) _ _ rfl (by simp;rfl) rfl (by omega) (by omega) (by simp;omega) ?_;intro v'' w4 hown'' hg'';obtain⟨g4,cap4,rfl,_,_⟩:=aQ hown'' (by omega);obtain⟨hc4,hf4,hn4⟩:=HST.out _ _ _ _ ((zE _).alloc _) hg'' hown'';have HN4:=zZ hn4;have HE4:=zZ (ab.setCell (ab.grown (HE3.out.alloc _) hg'' (fun k hk=>by have:=ar HOU.out k hk;omega)) (p:=⟨g',j+1,none⟩) hbg (D (some ⟨g4,0,none⟩) (nu+1) cap4));clear hn4 hown'' hg''))
     go_roundw
     case rel =>exact⟨k+1,j+1,g',cap',d++[cu],[(k:Int)],x,by omega,by omega,by omega,by omega,rfl,by go_num,by go_num,xi HR.out.1 (by rw[←HXQ.out];exact kY HX.out) hf',HJD.out,by simp,by simpa using HN4.out,HE4.out⟩
     case measure=>simp[intOf];omega
   ·obtain rfl:k=n:=by omega
    have hbdp:=pb ps;have HPG:=zZ (vO HL.out HR.out.1);clear hbdp;go_wp2_with fail;go_loopw [4] (fun s4 wr=>∃(m g cap:Nat) (ls:List (List Int)),m≤30∧s4=D (some ⟨g,0,none⟩) (m+1) cap∧Hid (ls.length=m+1∧eE p w1.heap.size 22 3 wr (D (some ⟨g,0,none⟩) (m+1) cap) ls∧ab w1 wr∧CN ls=af ps)) (fun s _=>match s with|D _ m _=>(4-m%4)%4|_=>0)
    case atStart=>exact⟨j,g,cap,d++[cu],by omega,rfl,by have:=HR.out.2.1;simp;omega,HR.out.2.2.2.1,HR.out.2.2.2.2,by unfold af;rw[HPG.out]⟩
    case round =>
     obtain⟨m,g,cap,ls,hm,rfl,HQ⟩:=hrel;clear HR HPG;by_cases h4:(m+1)%4=0
     ·have e4:(((m:Int)+1)%4 != 0)=false:=by simp;omega
      have c0:wr.cell? ⟨w.heap.size+1,0,none⟩=some (D none 0 0):=by have:=HQ.out.2.2.1.blk HRC.out;simp at this;exact ak this rfl
      have f0:wr.frozen? ⟨w.heap.size+1,0,none⟩=false:=by have:=HQ.out.2.2.1.blk HRC.out;simp at this;exact ax this 0
      have HP:Hid (ls=af ps):=by have:=HQ.out.2.2.2;rw[EW (by rw[HQ.out.1];exact h4)]at this;exact this
      have HE:=zZ (HE1.out.trans HQ.out.2.2.1);have HISP:Hid (∀u,db w.heap.size (wr.setCell ⟨w.heap.size+1,0,none⟩ u) (D (some ⟨g,0,none⟩) (m+1) cap) ls):=fun u=>db.of_nest (HQ.out.2.1.keep (w':=wr.setCell ⟨w.heap.size+1,0,none⟩ u) (by simp[World.setCell]) (fun k hk _=>xE _ _ _ _ (by show k≠w.heap.size+1;omega))) (by omega);have hlen:(af ps).length=m+1:=by rw[←HP.out];exact HQ.out.1
      have HLEN:=zZ hlen;clear h4 hlen;by_cases h12:12<m+1
      ·go_wp2_with fail;refine bodyPost_ret (v:=.tuple #[.agg #[D none 0 0],B C 3]) (by simp[results,results49,go_sem,c0]) rfl ⟨_,[],3,rfl,db.nil _ _,HE.out.setCell (by simp) _,fun h=>absurd (HV.out.symm.trans h) (by simp),fun _=>⟨fun _=>⟨rfl,rfl⟩,fun h=>absurd h (by have:=HLEN.out;omega)⟩⟩
      ·go_wp2_with fail;refine bodyPost_ret (v:=.tuple #[.agg #[D (some ⟨g,0,none⟩) (m+1) cap],B C 0]) (by simp[results,results49,go_sem,c0]) rfl ⟨_,af ps,0,rfl,?_,HE.out.setCell (by simp) _,fun h=>absurd (HV.out.symm.trans h) (by simp),fun _=>⟨fun h=>absurd h (by have:=HLEN.out;omega),fun _=>⟨rfl,rfl⟩⟩⟩;rw[←HP.out];exact HISP.out _
     ·have e4:(((m:Int)+1)%4 != 0)=true:=by simp;omega
      have HP4:Hid (CN (ls++[[]])=af ps):=by rw[←HQ.out.2.2.2];exact E0 (by rw[HQ.out.1];exact h4)
      obtain⟨us,hus,hOS⟩:=HQ.out.2.1.own;have HOS:=zZ hOS;clear hOS;have H4:=zZ h4;have hm10:m+1≤29:=by have h1:=congrArg List.length HQ.out.2.2.2;have h2:=(lh ps).1;have h3:=HL.out;have h5:=HQ.out.1;unfold CN at h1;simp at h1;omega
      clear h4;go_wp2_with (at_builtin;refine al _ rfl (.tmp 53) (.tmp 54) 90 rfl w1.heap.size 22 iS _ 24 underlying90 hiS hy0 hy1 hy2 rfl _ (m+1) us rfl (by have:=HOS.out.alloc (.cells #[D none 0 0] 22);rw[HQ.out.1]at this;exact this) _ _ rfl (by simp;rfl) rfl (by omega) (by omega) (by have:=HQ.out.2.2.1.size;simp;omega) ?_;intro v' w3 hown' hg';obtain⟨g',cap',rfl,_,_⟩:=aQ hown' (by omega);have HN3:=zZ ((HQ.out.2.1.ext ((zE _).alloc (.cells #[D none 0 0] 22))).new (by decide) (HOS.out.alloc _) hg' (by rw[HQ.out.1];exact hown'));have HE3:=zZ (ab.grown (HQ.out.2.2.1.alloc _) hg' (fun k hk=>by have:=ar HOS.out k hk;omega));clear hown' hg');go_roundw
      case rel=>exact⟨m+1,g',cap',ls++[[]],by omega,rfl,by have:=HQ.out.1;simp;omega,HN3.out,HE3.out,HP4.out⟩
      case measure=>have:=H4.out;show (4-(m+1+1)%4)%4<(4-(m+1)%4)%4;omega
def iv(a k:Nat):List Int:=(List.range k).map fun i=>((a+i:Nat):Int)
theorem AR(a k:Nat):iv a (k+1)=iv a k++[((a+k:Nat):Int)]:=by unfold iv;rw[yC];simp
theorem vW(a k:Nat):(iv a k).length=k:=by simp[iv]
theorem Hv{i:Nat}{y:Int}(h:(iv a k)[i]?=some y):y=((a+i:Nat):Int):=by unfold iv at h;simp only[zL,yI]at h;obtain⟨j,hj,rfl⟩:=h;have:=zY.1 hj;obtain⟨h1,h2⟩:=this;simp at h2;omega
theorem GK(h:a+k≤ns.length):kV ns a (iv a k) k:=⟨h,fun _ _ _ hy=>Hv hy⟩
theorem AZ(h:a+k≤ns.length)(hl:lA ns a k≤30):kz ns a (iv a k):=by unfold kz;rw[vW];exact⟨GK h,hl⟩
def Bt(ns:List Int)(d:List (List Int))(a:Nat):Prop:=∀rest,cT ns 0 (d++rest)↔cT ns a rest
theorem BH(ns:List Int):Bt ns [[]] 0:=by intro rest;simp[cT,kz,kV,lA]
theorem y7{d:List (List Int)}{pg:List Int}(h:Bt ns d a)(hp:kz ns a pg):Bt ns (d++[pg]) (a+pg.length):=by intro rest;rw[xV,h];exact⟨fun x=>x.2,fun x=>⟨hp,x⟩⟩
theorem Hl(ns:List Int)(hn:∀x∈ns,0≤x∧x≤30):∀k,k≤ns.length→∃a,a≤k∧Bt ns (gs ns k).1 a∧(gs ns k).2.1=iv a (k-a)∧(gs ns k).2.2=lA ns a (k-a)∧(gs ns k).2.2≤30∧∃t,(gs ns k).1=[]::t:=by
 intro k;induction k with
 |zero=>intro _;exact⟨0,by omega,BH ns,rfl,by simp[gs,lA],by simp[gs],[],rfl⟩
 |succ k ih =>
  intro hk;obtain⟨a,ha,h1,h2,h3,h4,t,h5⟩:=ih (by omega);have hkl:k<ns.length:=by omega
  have hx:ns[k]?=some ns[k]:=zW hkl;have hb:=hn _ (xX hkl);obtain⟨d,c,s,e⟩:∃d c s,gs ns k=(d,c,s):=⟨_,_,_,rfl⟩
  rw[e]at h1 h2 h3 h4 h5;simp only at h1 h2 h3 h4 h5;by_cases hf:s+ns[k]≤30
  ·rw[yz e hx hf];have ek:k+1-a=(k-a)+1:=by omega
   have eak:a+(k-a)=k:=by omega
   refine⟨a,by omega,h1,?_,?_,hf,t,h5⟩
   ·simp only;rw[ek,AR,h2,eak]
   ·simp only;rw[ek,jL (x:=ns[k]) (by rw[eak];exact hx),h3]
  ·rw[xi e hx (by omega)];refine⟨k,by omega,?_,?_,?_,by simp only;omega,t++[c],by simp only;rw[h5];rfl⟩
   ·simp only;have hp:kz ns a c:=by rw[h2];exact AZ (by omega) (by rw[←h3];exact h4)
    have:=y7 h1 hp;rw[h2,vW]at this;rw[h2];have e2:a+(k-a)=k:=by omega
    rw[e2]at this;exact this
   ·simp only;have:k+1-k=0+1:=by omega
    rw[this,AR];simp[iv]
   ·simp only;have:k+1-k=0+1:=by omega
    rw[this,jL (x:=ns[k]) (by simp),mw];omega
theorem ut(ns:List Int)(r:Nat):cT ns ns.length (List.replicate r []):=by
 induction r with
 |zero=>simp[cT]
 |succ r ih=>rw[List.replicate_succ];exact⟨⟨⟨by simp,fun i y hi=>by simp at hi⟩,by simp[lA]⟩,by simpa using ih⟩
theorem Gd{code var:Int}{ps:List ai}(hv:d9 code var ps=true)(hl:(af ps).length≤12):CU code var ps (af ps):=by
 obtain⟨a,ha,h1,h2,h3,h4,t,h5⟩:=Hl (ps.map cm) (pO ps) (ps.map cm).length (zX _);refine⟨hv,hl,?_,?_,?_⟩
 ·unfold af CN;simp;omega
 ·intro l hl';unfold af CN gR at hl';rw[h5]at hl';simp at hl';exact hl'
 ·unfold af CN gR;rw[xV,h1];rw[h2];refine⟨AZ (by omega) (by rw[←h3];exact h4),?_⟩;rw[vW];have e2:a+((ps.map cm).length-a)=(ps.map cm).length:=by omega
  rw[e2];exact ut _ _
theorem Tryz.infoPap:(prog.info? 89).map (fun i=>(i.zero,i.size,i.bytes))=some (some (.agg #[B C 0,B C 0,D none 0 0]),3,40):=by kernel_rfl
theorem Tryz.infoBk:(prog.info? 92).map (fun i=>(i.zero,i.size,i.bytes))=some (some (.agg #[D none 0 0]),1,24):=by kernel_rfl
theorem Tryz.infoXp:(prog.info? 83).map (fun i=>(i.zero,i.size,i.bytes))=some (some (.agg #[B C 0,B C 0,B C 0]),3,24):=by kernel_rfl
def fz(y:gE×Value):List Value:=[B C y.1.code,B C y.1.var,y.2]
def vQ(y:List (List Int)×Value):List Value:=[y.2]
theorem a8{w':World}{b1 e1 s1 n1 b2 e2 s2 n2:Nat}{v1 v2:Value}{x1 x2:List Value}(h:w.ownsRow b1 e1 s1 v1 n1 x1)(hz:w.ownsRow b2 e2 s2 v2 n2 x2)(hne:e1≠e2)(hg:w.grownBy w' v2.ownBlock):w'.ownsRow b1 e1 s1 v1 n1 x1 :=
 aE h hg fun k hk=>bE h hz hne k hk
theorem dn{w':World}{g b2 e2 s2 n2:Nat}{t:TypeId}{cs:Array Value}{v2:Value}{x2:List Value}(h:Bk w g cs t)(hz:w.ownsRow b2 e2 s2 v2 n2 x2)(hne:t≠e2)(hg:w.grownBy w' v2.ownBlock):Bk w' g cs t :=
 h.grown hg (ex hz h hne)
structure az (p:Nat) (w wx:World) (G:Nat) (num:Int) (aP aB aX vP vB vX:Value) (ys:List (gE×Value)) (bs:List (List (List Int)×Value)) (xs:List dF):Prop where
 tp:bt wx p
 xt:XT p w wx
 r0:Bk wx w.heap.size #[B C 0,D none 0 0,D none 0 0,D none 0 0] 27
 bx:Bk wx G #[B C num,aP,aB,aX] 27
 hG:w.heap.size<G
 oP:aL w.heap.size 89 3 fz wx vP ys
 oQ:∀y∈ys,dK w.heap.size wx y.2 y.1.ps
 oB:aL w.heap.size 92 1 vQ wx vB bs
 oR:∀y∈bs,db w.heap.size wx y.2 y.1
 oX:aL w.heap.size 83 3 dF.cells wx vX xs
section
variable {p G:Nat} {w wx w' w1 w2:World} {num:Int} {aP aB aX vP vB vX:Value} {ys:List (gE×Value)} {bs:List (List (List Int)×Value)} {xs:List dF}
theorem az.step(h:az p w wx G num aP aB aX vP vB vX ys bs xs)(hp:p<w.heap.size)(hx:XT p wx w')(ht:bt w' p):az p w w' G num aP aB aX vP vB vX ys bs xs :=
 ⟨ht,h.xt.trans hx,h.r0.xt hx (by omega),h.bx.xt hx (by have:=h.hG;omega),h.hG,h.oP.xt hx hp,fun y hy=>dJ (h.oQ y hy) hx hp,h.oB.xt hx hp,fun y hy=>(h.oR y hy).xt hx hp,h.oX.xt hx hp⟩
theorem az.ext(h:az p w wx G num aP aB aX vP vB vX ys bs xs)(hp:p<w.heap.size)(hx:ab wx w'):az p w w' G num aP aB aX vP vB vX ys bs xs:=h.step hp hx.xt (h.tp.ext hx)
theorem az.growP{y:gE×Value}(h:az p w wx G num aP aB aX vP vB vX ys bs xs)(hp:p<w.heap.size)(hg:wx.grownBy w2 vP.ownBlock)(h':w2.ownsRow w.heap.size 89 3 v' (ys.length+1) ((ys.map fz).flatten++fz y))(hq:dK w.heap.size wx y.2 y.1.ps) :
  az p w w2 G num aP aB aX v' vB vX (ys++[y]) bs xs :=
 ⟨h.tp.grown hg fun k hk=>by have:=ar h.oP.own k hk;omega,h.xt.grown hg (ar h.oP.own),dn h.r0 h.oP.own (by decide) hg,dn h.bx h.oP.own (by decide) hg,h.hG,aL.push h',
  fun z hz=>by
   rcases zC.1 hz with hz|hz
   ·exact a8 (h.oQ z hz) h.oP.own (by decide) hg
   ·obtain rfl:z=y:=by simpa using hz
    exact a8 hq h.oP.own (by decide) hg,
  a8 h.oB.own h.oP.own (by decide) hg,fun z hz=>(h.oR z hz).apart h.oP.own (by decide) (by decide) hg,a8 h.oX.own h.oP.own (by decide) hg⟩
theorem az.growB{y:List (List Int)×Value}(h:az p w wx G num aP aB aX vP vB vX ys bs xs)(hp:p<w.heap.size)(hg:wx.grownBy w2 vB.ownBlock)(h':w2.ownsRow w.heap.size 92 1 v' (bs.length+1) ((bs.map vQ).flatten++vQ y))(hq:db w.heap.size wx y.2 y.1) :
  az p w w2 G num aP aB aX vP v' vX ys (bs++[y]) xs :=
 ⟨h.tp.grown hg fun k hk=>by have:=ar h.oB.own k hk;omega,h.xt.grown hg (ar h.oB.own),dn h.r0 h.oB.own (by decide) hg,dn h.bx h.oB.own (by decide) hg,h.hG,a8 h.oP.own h.oB.own (by decide) hg,
  fun z hz=>a8 (h.oQ z hz) h.oB.own (by decide) hg,aL.push h',
  fun z hz=>by
   rcases zC.1 hz with hz|hz
   ·exact (h.oR z hz).apart h.oB.own (by decide) (by decide) hg
   ·obtain rfl:z=y:=by simpa using hz
    exact hq.apart h.oB.own (by decide) (by decide) hg,
  a8 h.oX.own h.oB.own (by decide) hg⟩
theorem az.growX{y:dF}(h:az p w wx G num aP aB aX vP vB vX ys bs xs)(hp:p<w.heap.size)(hg:wx.grownBy w2 vX.ownBlock)(h':w2.ownsRow w.heap.size 83 3 v' (xs.length+1) ((xs.map dF.cells).flatten++y.cells)) :
  az p w w2 G num aP aB aX vP vB v' ys bs (xs++[y]) :=
 ⟨h.tp.grown hg fun k hk=>by have:=ar h.oX.own k hk;omega,h.xt.grown hg (ar h.oX.own),dn h.r0 h.oX.own (by decide) hg,dn h.bx h.oX.own (by decide) hg,h.hG,a8 h.oP.own h.oX.own (by decide) hg,
  fun z hz=>a8 (h.oQ z hz) h.oX.own (by decide) hg,a8 h.oB.own h.oX.own (by decide) hg,fun z hz=>(h.oR z hz).apart h.oX.own (by decide) (by decide) hg,aL.push h'⟩
theorem az.set{i:Nat}{u:Value}{num':Int}{aP' aB' aX':Value}(h:az p w wx G num aP aB aX vP vB vX ys bs xs)(hp:p<w.heap.size)(he:#[Value.int .i64 num,aP,aB,aX].setIfInBounds i u=#[B C num',aP',aB',aX']) :
  az p w (wx.setCell ⟨G,i,none⟩ u) G num' aP' aB' aX' vP vB vX ys bs xs:=by
 have hG:=h.hG;have hf:∀{e s n:Nat} {v:Value} {x:List Value},e≠27→wx.ownsRow w.heap.size e s v n x→(wx.setCell ⟨G,i,none⟩ u).ownsRow w.heap.size e s v n x:=fun hne hr=>bm (a:=⟨G,i,none⟩) hr (ex (b:=G) hr h.bx (Ne.symm hne)) u;refine⟨h.tp.setNew (by simp only;omega) u,h.xt.setNew (by simp only;omega) u,h.r0.far (by simp only;omega) u,?_,hG,hf (by decide) h.oP.own,fun y hy=>hf (by decide) (h.oQ y hy),hf (by decide) h.oB.own,fun y hy=>(h.oR y hy).far h.bx (by decide) (by decide) u,hf (by decide) h.oX.own⟩;have:=h.bx.set i u;rw[he]at this;exact this
theorem az.setP{o:Nat}{g cap:Nat}{u:Value}{y y':gE×Value}(h:az p w wx G num aP aB aX (D (some ⟨g,0,none⟩) ys.length cap) vB vX ys bs xs)(hp:p<w.heap.size)(hy:ys[k]?=some y)(ho:o<3)(he:(fz y).set o u=fz y')(h2:y'.2=y.2)(h3:y'.1.ps=y.1.ps) :
  az p w (wx.setCell ⟨g,k*3+o,none⟩ u) G num aP aB aX (D (some ⟨g,0,none⟩) ys.length cap) vB vX (ys.set k y') bs xs:=by
 obtain⟨hk,rfl⟩:=zY.1 hy;obtain⟨o3,g3⟩:=h.oP.own.stored (k*3+o) u;have hfl:((ys.map fz).flatten).set (k*3+o) u=((ys.set k y').map fz).flatten:=by
  have key:∀(l:List (gE×Value)) (k:Nat) (hk:k<l.length),(fz l[k]).set o u=fz y'→((l.map fz).flatten).set (k*3+o) u=((l.set k y').map fz).flatten:=by
   intro l;induction l with
   |nil=>intro k hk;simp at hk
   |cons a l ih =>
    intro k hk he;have ha:(fz a).length=3:=rfl;cases k with
    |zero =>
     rw[xI,wO,Nat.zero_mul,yV,List.set_append_left _ _ (by rw[ha];exact ho)];rw[show (fz a).set o u=fz y' from he];rfl
    |succ k =>
     rw[xI,wO,List.set_append_right _ _ (by rw[ha];omega),ha,show (k+1)*3+o-3=k*3+o by omega,ih k (by simpa using hk) he];rfl
  exact key ys k hk he
 have hlen:(ys.set k y').length=ys.length:=by simp
 have kp:∀{e s n:Nat} {v:Value} {x:List Value},e≠89→wx.ownsRow w.heap.size e s v n x→(wx.setCell ⟨g,k*3+o,none⟩ u).ownsRow w.heap.size e s v n x:=fun hne hr=>aE hr g3 fun q hq e'=>bE hr h.oP.own hne q hq (by simpa[Value.ownBlock] using e');have hge:w.heap.size≤g:=ar h.oP.own g (by simp[Value.ownBlock]);refine⟨h.tp.setNew (by simp only;omega) u,h.xt.setNew (by simp only;omega) u,h.r0.grown g3 ?_,h.bx.grown g3 ?_,h.hG,?_,fun z hz=>?_,kp (by decide) h.oB.own,fun z hz=>?_,kp (by decide) h.oX.own⟩
 ·have:=ex h.oP.own h.r0 (by decide);simpa[Value.ownBlock] using this
 ·have:=ex h.oP.own h.bx (by decide);simpa[Value.ownBlock] using this
 ·unfold aL;rw[hlen,←hfl];exact o3
 ·rcases List.mem_or_eq_of_mem_set hz with hz|rfl
  ·exact kp (by decide) (h.oQ z hz)
  ·rw[h2,h3];exact kp (by decide) (h.oQ _ (xX hk))
 ·exact (h.oR z hz).keep fun he k=>kp (by rcases he with rfl|rfl<;>decide) k
end
theorem az.dropP{G:Nat}{wx:World}{aP aB aX vP vB vX:Value}{ys:List (gE×Value)}{bs:List (List (List Int)×Value)}{xs:List dF}(h:az p w wx G num aP aB aX vP vB vX ys bs xs):az p w wx G num aP aB aX (D none 0 0) vB vX [] bs xs :=
 ⟨h.tp,h.xt,h.r0,h.bx,h.hG,aL.nil,fun y hy=>by simp at hy,h.oB,h.oR,h.oX⟩
def ef(w:World)(base:Nat)(v:Value)(s:aZ):Prop:=∃vP vB vX ys bs,v=.agg #[B C s.num,vP,vB,vX]∧aL base 89 3 fz w vP ys∧ys.map Prod.fst=s.pap∧(∀y∈ys,dK base w y.2 y.1.ps) ∧
 aL base 92 1 vQ w vB bs∧bs.map Prod.fst=s.bk∧(∀y∈bs,db base w y.2 y.1)∧aL base 83 3 dF.cells w vX s.xp
structure jE (s:aZ):Prop where
 num:-1≤s.num∧s.num≤32
 papn:s.pap.length≤2
 pap:∀q∈s.pap,aC q.code∧aC q.var∧q.ps.length≤6∧(∀r∈q.ps,r.wf)
 bkn:s.bk.length≤3
 bk:∀b∈s.bk,b.length≤12∧∀l∈b,l.length≤24∧∀x∈l,0≤x∧x<24
 xpn:s.xp.length≤5
 xp:∀x∈s.xp,-1≤x.cand∧x.cand≤10000∧0≤x.cen∧x.cen≤100∧-1≤x.var∧x.var≤2
theorem ef.isSit{base:Nat}{v:Value}{s:aZ}(h:ef w base v s)(hs:jE s)(hp:p<base):aN p w v s:=by
 obtain⟨vP,vB,vX,ys,bs,rfl,h1,h2,h3,h4,h5,h6,h7⟩:=h;refine⟨vP,vB,vX,rfl,?_,?_,?_,?_⟩
 ·rw[←h2];refine bg.of_own (e:=89) (ys.map fz) (fun cs hcs=>by obtain⟨y,_,rfl⟩:=zJ.1 hcs;rfl) (by decide) (by simp) (by rw[zM];exact h1.own) hp ?_;intro k cs x hcs hx;simp only[zL,yI]at hcs hx;obtain⟨y,hy,rfl⟩:=hcs;obtain⟨z,hz,rfl⟩:=hx;rw[hy]at hz;injection hz with hz;subst hz
  have hm:=zU hy;have hb:=hs.pap y.1 (by rw[←h2];exact zJ.2 ⟨y,hm,rfl⟩);exact⟨y.2,rfl,(h3 y hm).isQ hp hb.2.2.2,hb.1,hb.2.1⟩
 ·rw[←h5];refine bg.of_own (e:=92) (bs.map vQ) (fun cs hcs=>by obtain⟨y,_,rfl⟩:=zJ.1 hcs;rfl) (by decide) (by simp) (by rw[zM];exact h4.own) hp ?_;intro k cs x hcs hx;simp only[zL,yI]at hcs hx;obtain⟨y,hy,rfl⟩:=hcs;obtain⟨z,hz,rfl⟩:=hx;rw[hy]at hz;injection hz with hz;subst hz
  have hm:=zU hy;have hb:=hs.bk y.1 (by rw[←h5];exact zJ.2 ⟨y,hm,rfl⟩);exact⟨y.2,rfl,(h6 y hm).isP hp (fun l hl x hx=>by have:=(hb.2 l hl).2 x hx;constructor<;>omega) (fun l hl=>by have:=(hb.2 l hl).1;omega)⟩
 ·exact h7.isS hp (by decide) (fun x _=>rfl) fun x hx=>⟨rfl,by have:=hs.xp x hx;unfold dF.wf aC;omega⟩
 ·have:=hs.num;constructor<;>omega
def wj(ys:List (gE×Value)):Prop:=ys.length≤2∧∀y∈ys,aC y.1.code∧aC y.1.var∧y.1.ps.length≤6∧(∀r∈y.1.ps,r.wf)
def Dw(n:Nat)(bs:List (List (List Int)×Value)):Prop:=bs.length≤n∧∀b∈bs,b.1.length≤12∧∀l∈b.1,l.length≤24∧∀x∈l,0≤x∧x<24
def Hd(n:Nat)(xs:List dF):Prop:=xs.length≤n∧∀x∈xs,-1≤x.cand∧x.cand≤10000∧0≤x.cen∧x.cen≤100∧-1≤x.var∧x.var≤2
theorem jA{ys:List (gE×Value)}{bs:List (List (List Int)×Value)}{xs:List dF}(h1:-1≤num∧num≤32)(h2:wj ys)(h3:Dw 3 bs)(h4:Hd 5 xs):jE ⟨num,ys.map Prod.fst,bs.map Prod.fst,xs⟩ :=
 ⟨h1,by simpa using h2.1,fun q hq=>by obtain⟨y,hy,rfl⟩:=zJ.1 hq;exact h2.2 y hy,by simpa using h3.1,fun b hb=>by obtain⟨y,hy,rfl⟩:=zJ.1 hb;exact h3.2 y hy,h4.1,h4.2⟩
theorem az.fin{G:Nat}{wx:World}{vP vB vX:Value}{ys:List (gE×Value)}{bs:List (List (List Int)×Value)}{xs:List dF}(h:az p w wx G num vP vB vX vP vB vX ys bs xs)(hp:p<w.heap.size)(u0 u1 u2 u3:Value) :
  ef ((((wx.setCell ⟨w.heap.size,0,none⟩ u0).setCell ⟨w.heap.size,1,none⟩ u1).setCell ⟨w.heap.size,2,none⟩ u2).setCell ⟨w.heap.size,3,none⟩ u3) w.heap.size (.agg #[B C num,vP,vB,vX]) ⟨num,ys.map Prod.fst,bs.map Prod.fst,xs⟩ ∧
  bt ((((wx.setCell ⟨w.heap.size,0,none⟩ u0).setCell ⟨w.heap.size,1,none⟩ u1).setCell ⟨w.heap.size,2,none⟩ u2).setCell ⟨w.heap.size,3,none⟩ u3) p ∧
  XT p w ((((wx.setCell ⟨w.heap.size,0,none⟩ u0).setCell ⟨w.heap.size,1,none⟩ u1).setCell ⟨w.heap.size,2,none⟩ u2).setCell ⟨w.heap.size,3,none⟩ u3):=by
 have hf:∀{e s n:Nat} {v:Value} {x:List Value},e≠27→wx.ownsRow w.heap.size e s v n x→((((wx.setCell ⟨w.heap.size,0,none⟩ u0).setCell ⟨w.heap.size,1,none⟩ u1).setCell ⟨w.heap.size,2,none⟩ u2).setCell ⟨w.heap.size,3,none⟩ u3).ownsRow w.heap.size e s v n x:=fun hne hr=>by have ha:=ex (b:=w.heap.size) hr h.r0 (Ne.symm hne);exact bm (a:=⟨w.heap.size,3,none⟩) (bm (a:=⟨w.heap.size,2,none⟩) (bm (a:=⟨w.heap.size,1,none⟩) (bm (a:=⟨w.heap.size,0,none⟩) hr ha u0) ha u1) ha u2) ha u3
 refine⟨⟨vP,vB,vX,ys,bs,rfl,hf (by decide) h.oP.own,rfl,fun y hy=>hf (by decide) (h.oQ y hy),hf (by decide) h.oB.own,rfl,fun y hy=>(h.oR y hy).keep fun he k=>hf (by rcases he with rfl|rfl<;>decide) k,hf (by decide) h.oX.own⟩,(((h.tp.setNew hp _).setNew hp _).setNew hp _).setNew hp _,((((h.xt.setNew (zX _) _).setNew (zX _) _).setNew (zX _) _).setNew (zX _) _)⟩
abbrev BL:=List (Nat×Array Value×TypeId)
structure dW (w wx:World) (L:BL):Prop where
 bk:∀(k:Nat) b cs t,L[k]?=some (b,cs,t)→w.heap.size≤b∧Bk wx b cs t
 df:∀(i j:Nat) x y,L[i]?=some x→L[j]?=some y→i≠j→x.1≠y.1
section
variable {p:Nat} {w wx w':World} {L:BL} {b:Nat} {cs:Array Value} {t:TypeId}
theorem dW.nil(w wx:World):dW w wx []:=⟨fun k b cs t h=>by simp at h,fun i j x y h=>by simp at h⟩
theorem dW.at_(h:dW w wx L)(k:Nat)(hk:L[k]?=some (b,cs,t)):Bk wx b cs t:=(h.bk k b cs t hk).2
theorem dW.ge(h:dW w wx L)(k:Nat)(hk:L[k]?=some (b,cs,t)):w.heap.size≤b:=(h.bk k b cs t hk).1
theorem dW.lt(h:dW w wx L)(k:Nat)(hk:L[k]?=some (b,cs,t)):b<wx.heap.size:=(h.bk k b cs t hk).2.lt
theorem dW.ext(h:dW w wx L)(hx:ab wx w'):dW w w' L:=⟨fun k b cs t hk=>⟨(h.bk k b cs t hk).1,(h.bk k b cs t hk).2.ext hx⟩,h.df⟩
theorem dW.xt(h:dW w wx L)(hx:XT p wx w')(hp:p<w.heap.size):dW w w' L:=⟨fun k b cs t hk=>⟨(h.bk k b cs t hk).1,(h.bk k b cs t hk).2.xt hx (by have:=(h.bk k b cs t hk).1;omega)⟩,h.df⟩
theorem dW.new(h:dW w wx L)(hs:w.heap.size≤wx.heap.size)(cs:Array Value)(t:TypeId):dW w (wx.alloc (.cells cs t)) (L++[(wx.heap.size,cs,t)]):=by
 have hlt:∀(k:Nat) x,L[k]?=some x→x.1<wx.heap.size:=fun k x hk=>(h.bk k x.1 x.2.1 x.2.2 hk).2.lt;refine⟨fun k b cs' t' hk=>?_,fun i j x y hi hj hij=>?_⟩
 ·rcases zV k L.length with hl|hl
  ·rw[zH hl]at hk;exact⟨(h.bk k b cs' t' hk).1,(h.bk k b cs' t' hk).2.alloc _⟩
  ·rw[yT hl]at hk;have hj:k-L.length=0:=by have:=(zY.1 hk).1;simp at this;omega
   rw[hj]at hk;simp at hk;obtain⟨rfl,rfl,rfl⟩:=hk;exact⟨hs,Bk.new wx _ _⟩
 ·rcases zV i L.length with hl|hl<;>rcases zV j L.length with hl'|hl'
  ·rw[zH hl]at hi;rw[zH hl']at hj;exact h.df i j x y hi hj hij
  ·rw[zH hl]at hi;rw[yT hl']at hj;have hj0:j-L.length=0:=by have:=(zY.1 hj).1;simp at this;omega
   rw[hj0]at hj;simp at hj;subst hj;have:=hlt i x hi;simp only;omega
  ·rw[yT hl]at hi;rw[zH hl']at hj;have hi0:i-L.length=0:=by have:=(zY.1 hi).1;simp at this;omega
   rw[hi0]at hi;simp at hi;subst hi;have:=hlt j y hj;simp only;omega
  ·have h1:i-L.length=0:=by have:=(zY.1 hi).1;simp at this;omega
   have h2:j-L.length=0:=by have:=(zY.1 hj).1;simp at this;omega
   omega
theorem dW.set(h:dW w wx L)(k:Nat)(hk:L[k]?=some (b,cs,t))(i:Nat)(u:Value):dW w (wx.setCell ⟨b,i,none⟩ u) (L.set k (b,cs.setIfInBounds i u,t)):=by
 have hkl:=(zY.1 hk).1;have hb:∀(j:Nat) x,(L.set k (b,cs.setIfInBounds i u,t))[j]?=some x→∃y,L[j]?=some y∧x.1=y.1∧(j≠k→x=y)∧(j=k→x=(b,cs.setIfInBounds i u,t)):=by
  intro j x hj;by_cases e:j=k
  ·subst e;rw[xL hkl]at hj;injection hj with hj;subst hj;exact⟨_,hk,rfl,fun e=>absurd rfl e,fun _=>rfl⟩
  ·rw[xP (Ne.symm e)]at hj;exact⟨x,hj,rfl,fun _=>rfl,fun e'=>absurd e' e⟩
 refine⟨fun j b' cs' t' hj=>?_,fun i' j x y hi hj hij=>?_⟩
 ·obtain⟨y,h1,h2,h3,h4⟩:=hb j _ hj;by_cases e:j=k
  ·have:=h4 e;injection this with a1 a2;injection a2 with a2 a3;subst a1;subst a2;subst a3;exact⟨(h.bk k _ _ _ hk).1,(h.bk k _ _ _ hk).2.set i u⟩
  ·have:=h3 e;subst this;exact⟨(h.bk j _ _ _ h1).1,(h.bk j _ _ _ h1).2.far (a:=⟨b,i,none⟩) (h.df j k _ _ h1 hk e) u⟩
 ·obtain⟨x',h1,h2,_⟩:=hb i' _ hi;obtain⟨y',h1',h2',_⟩:=hb j _ hj;rw[h2,h2'];exact h.df i' j x' y' h1 h1' hij
theorem dW.far(h:dW w wx L){a:Addr}(ha:∀(k:Nat) x,L[k]?=some x→x.1≠a.block)(u:Value):dW w (wx.setCell a u) L :=
 ⟨fun k b cs t hk=>⟨(h.bk k b cs t hk).1,(h.bk k b cs t hk).2.far (ha k _ hk) u⟩,h.df⟩
theorem dW.grown(h:dW w wx L){row:Option Nat}(hg:wx.grownBy w' row)(hr:∀(k:Nat) x,L[k]?=some x→row≠some x.1):dW w w' L :=
 ⟨fun k b cs t hk=>⟨(h.bk k b cs t hk).1,(h.bk k b cs t hk).2.grown hg (hr k _ hk)⟩,h.df⟩
theorem dW.take(h:dW w wx L)(n:Nat):dW w wx (L.take n):=by
 have hb:∀(k:Nat) x,(L.take n)[k]?=some x→L[k]?=some x:=by
  intro k x hk;rw[yB]at hk;split at hk
  ·exact hk
  ·cases hk
 exact⟨fun k b cs t hk=>h.bk k b cs t (hb k _ hk),fun i j x y hi hj hij=>h.df i j x y (hb i _ hi) (hb j _ hj) hij⟩
end
structure Fr (p:Nat) (w wx:World) (L:BL):Prop where
 tp:bt wx p
 xt:XT p w wx
 hp:p<w.heap.size
 bl:dW w wx L
section
variable {p:Nat} {w wx w':World} {L:BL} {b:Nat} {cs:Array Value} {t:TypeId}
theorem Fr.start(h:bt w p):Fr p w w []:=⟨h,XT.refl _ _,h.lt,dW.nil _ _⟩
theorem Fr.step(h:Fr p w wx L)(hx:XT p wx w')(ht:bt w' p):Fr p w w' L:=⟨ht,h.xt.trans hx,h.hp,h.bl.xt hx h.hp⟩
theorem Fr.ext(h:Fr p w wx L)(hx:ab wx w'):Fr p w w' L:=h.step hx.xt (h.tp.ext hx)
theorem Fr.new(h:Fr p w wx L)(cs:Array Value)(t:TypeId):Fr p w (wx.alloc (.cells cs t)) (L++[(wx.heap.size,cs,t)]) :=
 ⟨h.tp.ext ((zE _).alloc _),h.xt.alloc _,h.hp,h.bl.new h.xt.size cs t⟩
theorem Fr.push(h:Fr p w wx L)(cs:Array Value)(t:TypeId){n:Nat}(hn:wx.heap.size=n):Fr p w (wx.alloc (.cells cs t)) (L++[(n,cs,t)]):=hn▸h.new cs t
theorem Fr.set(h:Fr p w wx L)(k:Nat)(hk:L[k]?=some (b,cs,t))(i:Nat)(u:Value):Fr p w (wx.setCell ⟨b,i,none⟩ u) (L.set k (b,cs.setIfInBounds i u,t)) :=
 ⟨h.tp.setNew (by have:=h.bl.ge k hk;have:=h.hp;simp only;omega) u,h.xt.setNew (by have:=h.bl.ge k hk;simp only;omega) u,h.hp,h.bl.set k hk i u⟩
theorem Fr.at_(h:Fr p w wx L)(k:Nat)(hk:L[k]?=some (b,cs,t)):Bk wx b cs t:=h.bl.at_ k hk
theorem Fr.take(h:Fr p w wx L)(n:Nat):Fr p w wx (L.take n):=⟨h.tp,h.xt,h.hp,h.bl.take n⟩
theorem Fr.drew(h:Fr p w wx L):Fr p w wx.drew L:=h.ext ((zE _).drew)
theorem Fr.grown(h:Fr p w wx L){row:Option Nat}(hg:wx.grownBy w' row)(hr:∀(k:Nat) x,L[k]?=some x→row≠some x.1)(hb:∀k,row=some k→w.heap.size≤k):Fr p w w' L :=
 ⟨h.tp.grown hg (fun k hk=>by have:=hb k hk;have:=h.hp;omega),h.xt.grown hg hb,h.hp,h.bl.grown hg hr⟩
theorem Fr.lt(h:Fr p w wx L):p<wx.heap.size:=zP h.hp h.xt.size
end
structure ae (w wx:World) (L:BL):Prop where
 xt:ab w wx
 bl:dW w wx L
section
variable {w wx w':World} {L:BL} {b:Nat} {cs:Array Value} {t:TypeId}
theorem ae.start(w:World):ae w w []:=⟨zE _,dW.nil _ _⟩
theorem ae.ext(h:ae w wx L)(hx:ab wx w'):ae w w' L:=⟨h.xt.trans hx,h.bl.ext hx⟩
theorem ae.new(h:ae w wx L)(cs:Array Value)(t:TypeId):ae w (wx.alloc (.cells cs t)) (L++[(wx.heap.size,cs,t)]):=⟨h.xt.alloc _,h.bl.new h.xt.size cs t⟩
theorem ae.push(h:ae w wx L)(cs:Array Value)(t:TypeId){n:Nat}(hn:wx.heap.size=n):ae w (wx.alloc (.cells cs t)) (L++[(n,cs,t)]):=hn▸h.new cs t
theorem ae.set(h:ae w wx L)(k:Nat)(hk:L[k]?=some (b,cs,t))(i:Nat)(u:Value):ae w (wx.setCell ⟨b,i,none⟩ u) (L.set k (b,cs.setIfInBounds i u,t)) :=
 ⟨h.xt.setCell (by have:=h.bl.ge k hk;simp only;omega) u,h.bl.set k hk i u⟩
theorem ae.at_(h:ae w wx L)(k:Nat)(hk:L[k]?=some (b,cs,t)):Bk wx b cs t:=h.bl.at_ k hk
theorem ae.take(h:ae w wx L)(n:Nat):ae w wx (L.take n):=⟨h.xt,h.bl.take n⟩
theorem ae.drew(h:ae w wx L):ae w wx.drew L:=h.ext ((zE _).drew)
theorem ae.grown(h:ae w wx L){row:Option Nat}(hg:wx.grownBy w' row)(hr:∀(k:Nat) x,L[k]?=some x→row≠some x.1)(hb:∀k,row=some k→w.heap.size≤k):ae w w' L :=
 ⟨h.xt.grown hg hb,h.bl.grown hg hr⟩
end
section
variable {P:Program} {ops:Array Oper} {Q:Exit→Act→World→Prop} {md:Region.Mode} {S S':World→Prop} {k:Nat}
theorem gZ(h:∀w,S' w→S w):∀(fuel:Nat) (listed:Array Bool) (a:Act) (w:World),cV P md ops Q S' k fuel listed a w→cV P md ops Q S k fuel listed a w
 |0,_,_,_,H=>H
 |fuel+1,_,_,_,H=>⟨H.1,fun i hi=>wpOp_mono (fun _ _ H'=>⟨fun hk=>h _ (H'.1 hk),gZ h fuel _ _ _ H'.2⟩) (H.2 i hi)⟩
end
theorem oI{b off:Nat}{cs:List Value}{x:dF}(hc:∀j u,cs[j]?=some u→w.cell? ⟨b,off+j,none⟩=some u)(h:iK w cs x) :
  w.cell? ⟨b,off,none⟩=some (B C x.cand)∧w.cell? ⟨b,off+1,none⟩=some (B C x.cen)∧w.cell? ⟨b,off+2,none⟩=some (B C x.var):=by
 obtain⟨rfl,_⟩:=h;exact⟨hc 0 _ rfl,hc 1 _ rfl,hc 2 _ rfl⟩
theorem ko(p:Nat)(v:Value)(s:aZ)(w:World)(h:bt w p)(hs:aN p w v s)(hw:jE s) :
  Calls prog 53 #[.pointer (some ⟨p,0,none⟩),v] w (fX p w fun v _=>∃l:cU,v=l.val∧l.wf):=by
 obtain⟨vP,vB,vX,rfl,_,_,hX,hnum⟩:=hs;obtain⟨A,n,c,rfl,hnc,hc,hnn,HL⟩:=hX.open_;obtain⟨hn1,hn2⟩:=hnum;have hlt:=h.lt;have hn5:n≤5:=by have:=HL.out;have:=hw.xpn;omega
 have HW:Bx (∀x∈s.xp,-1≤x.cand∧x.cand≤10000∧0≤x.cen∧x.cen≤100∧-1≤x.var∧x.var≤2):=⟨hw.xp⟩
 obtain⟨w1,hw1⟩:=nm ((((w.alloc (.cells #[B C s.num,vP,vB,D A n c] 27)).alloc (.cells #[B C 0,B C 0,B C 0,B C 0] 73)).alloc (.cells #[B C s.num,B C 0,B C 0,B C 0] 73)):World);have HF:Bx (Fr p w w1 [(w.heap.size,#[B C s.num,vP,vB,D A n c],27),(w.heap.size+1,#[B C 0,B C 0,B C 0,B C 0],73),(w.heap.size+2,#[B C s.num,B C 0,B C 0,B C 0],73)]) :=
  ⟨by rw[hw1];exact (((Fr.start h).push _ _ rfl).push _ _ (by simp)).push _ _ (by simp)⟩
 have HX:Bx (d7 p w1 (D A n c) s.xp):=⟨by rw[hw1];exact hX.ext (iK.stab p) ((((zE _).alloc _).alloc _).alloc _)⟩
 clear h hX hw;go_enter func53,ntmps53
 go_upto_if 13 with (fail)
 rw[←hw1];clear hw1;go_cut [] (fun wx=>∃a b c' d:Int,aC a∧aC b∧aC c'∧aC d∧Bx (Fr p w wx [(w.heap.size,#[B C s.num,vP,vB,D A n c],27),(w.heap.size+1,#[B C 0,B C 0,B C 0,B C 0],73),(w.heap.size+2,#[B C a,B C b,B C c',B C d],73)]))
 case first =>
  by_cases h0:0<n
  ·obtain⟨b,off,cs0,x0,rfl,-⟩:=HX.out.at_ h0;go_upto_region 3 with (fail)
   go_cut [6] (fun s6 wx=>∃(g:Nat) (x:dF),s6=.pointer (some ⟨g,0,none⟩)∧Bx (x.wf∧Fr p w wx [(w.heap.size,#[B C s.num,vP,vB,D (some ⟨b,off,none⟩) n c],27),(w.heap.size+1,#[B C 0,B C 0,B C 0,B C 0],73),(w.heap.size+2,#[B C s.num,B C 0,B C 0,B C 0],73),(g,#[B C x.cand,B C x.cen,B C x.var],83)]))
   case first =>
    have g3:w1.drew.cell? ⟨w.heap.size,3,none⟩=some (D (some ⟨b,off,none⟩) n c):=(HF.out.drew.at_ 0 rfl).c 3 rfl;refine zR 10 (fun w'=>w'.cell? ⟨w.heap.size,3,none⟩=some (D (some ⟨b,off,none⟩) n c)) ?_;refine zS 6 [(0,14),(1,15),(2,16),(3,17),(4,18),(5,19)] g3 ?_;iterate 6 (apply zT;exact⟨rfl,rfl⟩;(·intro _ _;go_simp;try with_reducible rfl);simp only[kA];exact rfl)
    refine zN (bD 6 9 (by kernel_rfl) rfl rfl (fun K hK=>?_) (fun K hK=>?_))
    ·go_simp;refine (au p n _ HF.out.drew.tp (by omega)).mono ?_;rintro e w2 ⟨v2,rfl,⟨r,rfl,hr1,hr2⟩,HT2,HX2⟩;obtain⟨r,rfl⟩:=zG hr1;have hrn:r<n:=by omega
     have HF2:Bx (Fr p w w2 [(w.heap.size,#[B C s.num,vP,vB,D (some ⟨b,off,none⟩) n c],27),(w.heap.size+1,#[B C 0,B C 0,B C 0,B C 0],73),(w.heap.size+2,#[B C s.num,B C 0,B C 0,B C 0],73)]):=⟨HF.out.drew.step HX2 HT2⟩
     have HX2':Bx (d7 p w2 (D (some ⟨b,off,none⟩) n c) s.xp):=⟨(HX.out.ext (iK.stab p) ((zE _).drew)).xt (iK.stab p) HX2⟩
     have g3':w2.cell? ⟨w.heap.size,3,none⟩=some (D (some ⟨b,off,none⟩) n c):=(HF2.out.at_ 0 rfl).c 3 rfl;clear HT2 HX2;obtain⟨cs,x,hcl,hcc,hRx,hxx⟩:=HX2'.out.cell_ hrn;obtain⟨x0',x1',x2'⟩:=oI hcc hRx;have hxw:Bx x.wf:=⟨hRx.2⟩
     clear hcc hRx hcl hxx;refine hK.out _ _ (fun _=>(g3')) ?_;clear hK K;try simp only[kA]
     refine gZ (S':=(fun w'=>w'.cell? ⟨w.heap.size,3,none⟩=some (D (some ⟨b,off,none⟩) n c)∧w'.cell? ⟨b,off+r*3,none⟩=some (B C x.cand)∧w'.cell? ⟨b,off+r*3+1,none⟩=some (B C x.cen)∧w'.cell? ⟨b,off+r*3+2,none⟩=some (B C x.var))) (fun _ h=>h.1) _ _ _ _ ?_;have g4:=yX g3' (yX x0' (yX x1' x2'));refine zS 2 [(7,21),(8,22)] g4 ?_;iterate 2 (apply zT;exact⟨rfl,rfl⟩;(·intro _ _;go_simp;try with_reducible rfl);simp only[kA];exact rfl)
     refine zN (zO 9 (fun K hK=>?_));go_simp;refine hK.out _ _ (fun _=>(⟨((zE w2).alloc _).cell g3',((zE w2).alloc _).cell x0',((zE w2).alloc _).cell x1',((zE w2).alloc _).cell x2'⟩)) ?_;clear hK K;try simp only[kA]
     refine zO 10 (fun K hK=>?_);go_simp;refine hK.out _ _ (fun h=>absurd rfl h) ?_;clear hK K;refine zD ?_;go_wp2_with fail;go_meet
     exact⟨w2.heap.size,x,rfl,⟨hxw.out,HF2.out.new _ _⟩⟩
    ·go_simp;obtain⟨w3,hw3⟩:=nm ((w1.alloc (.cells #[B C 0,B C 0,B C 0] 83)).drew:World);have HF3:Bx (Fr p w w3 [(w.heap.size,#[B C s.num,vP,vB,D (some ⟨b,off,none⟩) n c],27),(w.heap.size+1,#[B C 0,B C 0,B C 0,B C 0],73),(w.heap.size+2,#[B C s.num,B C 0,B C 0,B C 0],73),(w1.heap.size,#[B C 0,B C 0,B C 0],83)]):=⟨by rw[hw3];exact (HF.out.new _ _).drew⟩
     have HX3:Bx (d7 p w3 (D (some ⟨b,off,none⟩) n c) s.xp):=⟨by rw[hw3];exact HX.out.ext (iK.stab p) (((zE _).alloc _).drew)⟩
     have g33:w3.cell? ⟨w.heap.size,3,none⟩=some (D (some ⟨b,off,none⟩) n c):=(HF3.out.at_ 0 rfl).c 3 rfl;rw[←hw3];clear hw3;refine hK.out _ _ (fun _=>(g33)) ?_;clear hK K;try simp only[kA]
     refine zO 6 (fun K hK=>?_);go_simp;refine (au p n _ HF3.out.tp (by omega)).mono ?_;rintro e w2 ⟨v2,rfl,⟨r,rfl,hr1,hr2⟩,HT2,HX2⟩;obtain⟨r,rfl⟩:=zG hr1;have hrn:r<n:=by omega
     have HF2:=bx (HF3.out.step HX2 HT2);have HX2':Bx (d7 p w2 (D (some ⟨b,off,none⟩) n c) s.xp):=⟨HX3.out.xt (iK.stab p) HX2⟩
     have g3':w2.cell? ⟨w.heap.size,3,none⟩=some (D (some ⟨b,off,none⟩) n c):=(HF2.out.at_ 0 rfl).c 3 rfl;clear HT2 HX2;obtain⟨cs,x,hcl,hcc,hRx,hxx⟩:=HX2'.out.cell_ hrn;obtain⟨x0',x1',x2'⟩:=oI hcc hRx;have hxw:Bx x.wf:=⟨hRx.2⟩
     clear hcc hRx hcl hxx;refine hK.out _ _ (fun _=>(g3')) ?_;clear hK K;try simp only[kA]
     refine gZ (S':=(fun w'=>w'.cell? ⟨w.heap.size,3,none⟩=some (D (some ⟨b,off,none⟩) n c)∧w'.cell? ⟨b,off+r*3,none⟩=some (B C x.cand)∧w'.cell? ⟨b,off+r*3+1,none⟩=some (B C x.cen)∧w'.cell? ⟨b,off+r*3+2,none⟩=some (B C x.var))) (fun _ h=>h.1) _ _ _ _ ?_;have g4:=yX g3' (yX x0' (yX x1' x2'));refine zS 2 [(7,21),(8,22)] g4 ?_;iterate 2 (apply zT;exact⟨rfl,rfl⟩;(·intro _ _;go_simp;try with_reducible rfl);simp only[kA];exact rfl)
     refine zN ?_;obtain⟨z0,z1,z2⟩:=(HF2.out.at_ 3 rfl).p3 rfl;have f0:=(HF2.out.at_ 3 rfl).froz;have f1:=f0;have f2:=f0;refine zO 10 (fun K hK=>?_);go_simp;refine hK.out _ _ (fun h=>absurd rfl h) ?_;clear hK K;refine zD ?_;go_wp2_with fail;go_meet
     exact⟨w1.heap.size,x,rfl,⟨hxw.out,((HF2.out.set 3 rfl 0 _).set 3 rfl 1 _).set 3 rfl 2 _⟩⟩
   case rest =>
    obtain⟨g,x,rfl,HR⟩:=hcut;clear HF HX;obtain⟨⟨hx1,hx1'⟩,-,hx3,hx3'⟩:=HR.out.1;go_upto_region 4 with (fail)
    have k0:wc.drew.cell? ⟨g,0,none⟩=some (B C x.cand)∧wc.drew.cell? ⟨g,2,none⟩=some (B C x.var):=⟨(HR.out.2.drew.at_ 3 rfl).c 0 rfl,(HR.out.2.drew.at_ 3 rfl).c 2 rfl⟩
    refine zR 11 (fun w'=>w'.cell? ⟨g,0,none⟩=some (B C x.cand)∧w'.cell? ⟨g,2,none⟩=some (B C x.var)) ?_;refine zS 6 [(0,23),(1,24),(2,25),(3,26),(4,27),(6,29)] k0 ?_;iterate 6 (apply zT;exact⟨rfl,rfl⟩;(·intro _ _;go_simp;try with_reducible rfl);simp only[kA];exact rfl)
    refine zN (zO 5 (fun K hK=>?_));go_simp;refine (au p 4 _ HR.out.2.drew.tp (by omega)).mono ?_;rintro e w2 ⟨v2,rfl,⟨r,rfl,hr1,hr2⟩,HT2,HX2⟩;have H1:Bx (Fr p w w2 [(w.heap.size,#[B C s.num,vP,vB,D (some ⟨b,off,none⟩) n c],27),(w.heap.size+1,#[B C 0,B C 0,B C 0,B C 0],73),(w.heap.size+2,#[B C s.num,B C 0,B C 0,B C 0],73),(g,#[B C x.cand,B C x.cen,B C x.var],83)]):=⟨HR.out.2.drew.step HX2 HT2⟩
    clear HT2 HX2 k0;have k1:=yX ((H1.out.at_ 3 rfl).c 0 rfl) ((H1.out.at_ 3 rfl).c 2 rfl);refine hK.out _ _ (fun _=>(k1)) ?_;clear hK K;try simp only[kA]
    clear k1;have q1:=(H1.out.at_ 2 rfl).c 1 rfl;have f1:=(H1.out.at_ 2 rfl).froz;refine zO 7 (fun K hK=>?_);go_simp;obtain⟨w3,hw3⟩:=nm ((w2.setCell ⟨w.heap.size+2,1,none⟩ (B C x.cand)):World);have H3:Bx (Fr p w w3 [(w.heap.size,#[B C s.num,vP,vB,D (some ⟨b,off,none⟩) n c],27),(w.heap.size+1,#[B C 0,B C 0,B C 0,B C 0],73),(w.heap.size+2,#[B C s.num,B C x.cand,B C 0,B C 0],73),(g,#[B C x.cand,B C x.cen,B C x.var],83)]):=⟨by rw[hw3];exact H1.out.set 2 rfl 1 _⟩
    rw[←hw3];clear hw3 q1 f1 H1;have k3:=yX ((H3.out.at_ 3 rfl).c 0 rfl) ((H3.out.at_ 3 rfl).c 2 rfl);refine hK.out _ _ (fun _=>(k3)) ?_;clear hK K;try simp only[kA]
    refine zS 1 [(8,30)] k3 ?_;(apply zT;exact⟨rfl,rfl⟩;(·intro _ _;go_simp;try with_reducible rfl);simp only[kA];exact rfl);refine zN ?_;clear k3;have q3:=(H3.out.at_ 2 rfl).c 3 rfl;have f3:=(H3.out.at_ 2 rfl).froz;refine zO 9 (fun K hK=>?_);go_simp;obtain⟨w4,hw4⟩:=nm ((w3.setCell ⟨w.heap.size+2,3,none⟩ (B C x.var)):World);have H4:Bx (Fr p w w4 [(w.heap.size,#[B C s.num,vP,vB,D (some ⟨b,off,none⟩) n c],27),(w.heap.size+1,#[B C 0,B C 0,B C 0,B C 0],73),(w.heap.size+2,#[B C s.num,B C x.cand,B C 0,B C x.var],73),(g,#[B C x.cand,B C x.cen,B C x.var],83)]):=⟨by rw[hw4];exact H3.out.set 2 rfl 3 _⟩
    rw[←hw4];clear hw4 q3 f3 H3;have k4:=yX ((H4.out.at_ 3 rfl).c 0 rfl) ((H4.out.at_ 3 rfl).c 2 rfl);refine hK.out _ _ (fun _=>(k4)) ?_;clear hK K;try simp only[kA]
    refine zS 1 [(10,31)] k4 ?_;(apply zT;exact⟨rfl,rfl⟩;(·intro _ _;go_simp;try with_reducible rfl);simp only[kA];exact rfl);refine zN ?_;clear k4;have q2:=(H4.out.at_ 2 rfl).c 2 rfl;have f2:=(H4.out.at_ 2 rfl).froz;refine zO 11 (fun K hK=>?_);go_simp;refine hK.out _ _ (fun h=>absurd rfl h) ?_;clear hK K;refine zD ?_;go_wp2_with fail;go_meet
    exact⟨s.num,x.cand,r,x.var,⟨hn1,hn2⟩,⟨hx1,hx1'⟩,⟨by omega,by omega⟩,⟨hx3,hx3'⟩,⟨(H4.out.set 2 rfl 2 _).take 3⟩⟩
  ·go_wp2_with fail;go_meet
   exact⟨s.num,0,0,0,⟨hn1,hn2⟩,by decide,by decide,by decide,HF⟩
 case rest =>
  obtain⟨a,b,c',d,⟨ha1,ha2⟩,⟨hb1,hb2⟩,⟨hc1,hc2⟩,⟨hd1,hd2⟩,HR⟩:=hcut;clear HF HX;go_wp2_with fail;refine (dR p 10 _ HR.out.tp (by omega) (by omega)).mono ?_;rintro e w5 ⟨v5,rfl,⟨b5,rfl⟩,HT5,HX5⟩;have H5:=bx (HR.out.step HX5 HT5);clear HR HT5 HX5;cases b5 with
  |false =>
   obtain⟨g0,g1,g2,g3⟩:=(H5.out.at_ 2 rfl).p4 rfl;obtain⟨z0,z1,z2,z3⟩:=(H5.out.at_ 1 rfl).p4 rfl;have f0:=(H5.out.at_ 1 rfl).froz;have f1:=f0;have f2:=f0;have f3:=f0;go_wp2_with fail;have H6:=(((H5.out.set 1 rfl 0 (B C a)).set 1 rfl 1 (B C b)).set 1 rfl 2 (B C c')).set 1 rfl 3 (B C d);refine bodyPost_ret (v:=.agg #[B C a,B C b,B C c',B C d]) (by simp[results,results53,go_sem,g0,g1,g2,g3,z0,z1,z2,z3]) rfl ⟨_,rfl,⟨⟨a,b,c',d⟩,rfl,⟨ha1,ha2⟩,⟨hb1,hb2⟩,⟨hc1,hc2⟩,⟨hd1,hd2⟩⟩,H6.tp,H6.xt⟩
  |true =>
   go_wp2_with fail;refine (au p 4 _ H5.out.tp (by omega)).mono ?_;rintro e w6 ⟨v6,rfl,⟨r,rfl,hr1,hr2⟩,HT6,HX6⟩;have H6:=bx (H5.out.step HX6 HT6);clear H5 HT6 HX6;by_cases c0:r=0
   ·subst c0;have k0:((0:Int)==0)=true:=rfl;go_wp2_with fail;refine (am p 0 2 _ H6.out.tp (by omega) (by omega) (by omega) (by omega)).mono ?_;rintro e w7 ⟨v7,rfl,⟨y,rfl,hy1,hy2⟩,HT7,HX7⟩;have H7:=bx (H6.out.step HX7 HT7);clear H6 HT7 HX7;have q0:=(H7.out.at_ 2 rfl).c 0 rfl;have qf:=(H7.out.at_ 2 rfl).froz;have H8:Bx (Fr p w (w7.setCell ⟨w.heap.size+2,0,none⟩ (B C y)) [(w.heap.size,#[B C s.num,vP,vB,D A n c],27),(w.heap.size+1,#[B C 0,B C 0,B C 0,B C 0],73),(w.heap.size+2,#[B C y,B C b,B C c',B C d],73)]):=⟨H7.out.set 2 rfl 0 _⟩
    clear H7;obtain⟨g0,g1,g2,g3⟩:=(H8.out.at_ 2 rfl).p4 rfl;obtain⟨z0,z1,z2,z3⟩:=(H8.out.at_ 1 rfl).p4 rfl;have f0:=(H8.out.at_ 1 rfl).froz;have f1:=f0;have f2:=f0;have f3:=f0;go_wp2_with fail;have H9:=(((H8.out.set 1 rfl 0 (B C y)).set 1 rfl 1 (B C b)).set 1 rfl 2 (B C c')).set 1 rfl 3 (B C d);refine bodyPost_ret (v:=.agg #[B C y,B C b,B C c',B C d]) (by simp[results,results53,go_sem,g0,g1,g2,g3,z0,z1,z2,z3]) rfl ⟨_,rfl,⟨⟨y,b,c',d⟩,rfl,by constructor<;>(simp only;omega),by constructor<;>(simp only;omega),by constructor<;>(simp only;omega),by constructor<;>(simp only;omega)⟩,H9.tp,H9.xt⟩
   have k0:(r==0)=false:=beq_eq_false_iff_ne.2 c0;by_cases c1:r=1
   ·have k1:(r==1)=true:=by rw[c1];rfl
    go_wp2_with fail;refine (au p 6 _ H6.out.tp (by omega)).mono ?_;rintro e w7 ⟨v7,rfl,⟨y,rfl,hy1,hy2⟩,HT7,HX7⟩;have H7:=bx (H6.out.step HX7 HT7);clear H6 HT7 HX7;have q0:=(H7.out.at_ 2 rfl).c 1 rfl;have qf:=(H7.out.at_ 2 rfl).froz;have H8:Bx (Fr p w (w7.setCell ⟨w.heap.size+2,1,none⟩ (B C y)) [(w.heap.size,#[B C s.num,vP,vB,D A n c],27),(w.heap.size+1,#[B C 0,B C 0,B C 0,B C 0],73),(w.heap.size+2,#[B C a,B C y,B C c',B C d],73)]):=⟨H7.out.set 2 rfl 1 _⟩
    clear H7;obtain⟨g0,g1,g2,g3⟩:=(H8.out.at_ 2 rfl).p4 rfl;obtain⟨z0,z1,z2,z3⟩:=(H8.out.at_ 1 rfl).p4 rfl;have f0:=(H8.out.at_ 1 rfl).froz;have f1:=f0;have f2:=f0;have f3:=f0;go_wp2_with fail;have H9:=(((H8.out.set 1 rfl 0 (B C a)).set 1 rfl 1 (B C y)).set 1 rfl 2 (B C c')).set 1 rfl 3 (B C d);refine bodyPost_ret (v:=.agg #[B C a,B C y,B C c',B C d]) (by simp[results,results53,go_sem,g0,g1,g2,g3,z0,z1,z2,z3]) rfl ⟨_,rfl,⟨⟨a,y,c',d⟩,rfl,by constructor<;>(simp only;omega),by constructor<;>(simp only;omega),by constructor<;>(simp only;omega),by constructor<;>(simp only;omega)⟩,H9.tp,H9.xt⟩
   have k1:(r==1)=false:=beq_eq_false_iff_ne.2 c1;by_cases c2:r=2
   ·have k2:(r==2)=true:=by rw[c2];rfl
    go_wp2_with fail;refine (au p 3 _ H6.out.tp (by omega)).mono ?_;rintro e w7 ⟨v7,rfl,⟨y,rfl,hy1,hy2⟩,HT7,HX7⟩;have H7:=bx (H6.out.step HX7 HT7);clear H6 HT7 HX7;have q0:=(H7.out.at_ 2 rfl).c 3 rfl;have qf:=(H7.out.at_ 2 rfl).froz;have H8:Bx (Fr p w (w7.setCell ⟨w.heap.size+2,3,none⟩ (B C y)) [(w.heap.size,#[B C s.num,vP,vB,D A n c],27),(w.heap.size+1,#[B C 0,B C 0,B C 0,B C 0],73),(w.heap.size+2,#[B C a,B C b,B C c',B C y],73)]):=⟨H7.out.set 2 rfl 3 _⟩
    clear H7;obtain⟨g0,g1,g2,g3⟩:=(H8.out.at_ 2 rfl).p4 rfl;obtain⟨z0,z1,z2,z3⟩:=(H8.out.at_ 1 rfl).p4 rfl;have f0:=(H8.out.at_ 1 rfl).froz;have f1:=f0;have f2:=f0;have f3:=f0;go_wp2_with fail;have H9:=(((H8.out.set 1 rfl 0 (B C a)).set 1 rfl 1 (B C b)).set 1 rfl 2 (B C c')).set 1 rfl 3 (B C y);refine bodyPost_ret (v:=.agg #[B C a,B C b,B C c',B C y]) (by simp[results,results53,go_sem,g0,g1,g2,g3,z0,z1,z2,z3]) rfl ⟨_,rfl,⟨⟨a,b,c',y⟩,rfl,by constructor<;>(simp only;omega),by constructor<;>(simp only;omega),by constructor<;>(simp only;omega),by constructor<;>(simp only;omega)⟩,H9.tp,H9.xt⟩
   have k2:(r==2)=false:=beq_eq_false_iff_ne.2 c2;go_wp2_with fail;refine (am p 3 9 _ H6.out.tp (by omega) (by omega) (by omega) (by omega)).mono ?_;rintro e w7 ⟨v7,rfl,⟨y,rfl,hy1,hy2⟩,HT7,HX7⟩;have H7:=bx (H6.out.step HX7 HT7);clear H6 HT7 HX7;have q0:=(H7.out.at_ 2 rfl).c 2 rfl;have qf:=(H7.out.at_ 2 rfl).froz;have H8:Bx (Fr p w (w7.setCell ⟨w.heap.size+2,2,none⟩ (B C y)) [(w.heap.size,#[B C s.num,vP,vB,D A n c],27),(w.heap.size+1,#[B C 0,B C 0,B C 0,B C 0],73),(w.heap.size+2,#[B C a,B C b,B C y,B C d],73)]):=⟨H7.out.set 2 rfl 2 _⟩
   clear H7;obtain⟨g0,g1,g2,g3⟩:=(H8.out.at_ 2 rfl).p4 rfl;obtain⟨z0,z1,z2,z3⟩:=(H8.out.at_ 1 rfl).p4 rfl;have f0:=(H8.out.at_ 1 rfl).froz;have f1:=f0;have f2:=f0;have f3:=f0;go_wp2_with fail;have H9:=(((H8.out.set 1 rfl 0 (B C a)).set 1 rfl 1 (B C b)).set 1 rfl 2 (B C y)).set 1 rfl 3 (B C d);refine bodyPost_ret (v:=.agg #[B C a,B C b,B C y,B C d]) (by simp[results,results53,go_sem,g0,g1,g2,g3,z0,z1,z2,z3]) rfl ⟨_,rfl,⟨⟨a,b,y,d⟩,rfl,by constructor<;>(simp only;omega),by constructor<;>(simp only;omega),by constructor<;>(simp only;omega),by constructor<;>(simp only;omega)⟩,H9.tp,H9.xt⟩
theorem gT(code var:Int)(v vb:Value)(ps:List ai)(pgs:List (List Int))(w:World)(h:kr p w v ps)(hb:kL p w vb pgs) :
  Calls prog 107 #[.agg #[B C code,B C var,v],.agg #[vb]] w fun e w'=>e=.returned (.bool (eU code var ps pgs))∧ab w w':=by
 obtain⟨A,n,c,rfl,hnc,hc,hnn,HL⟩:=h.open_;obtain⟨Ab,m,cb,rfl,hmc,hcb,hmm,HM⟩:=hb.open_;have H:=zZ h;have HB:=zZ hb;clear h hb;go_enter func107,ntmps107
 go_wp2_with fail;refine (gu _ _ _ ps _ ((H.out.ext (aI.stab p) ((zE _).alloc _)).ext (aI.stab p) ((zE _).alloc _))).mono ?_;rintro e w1 ⟨rfl,hx1⟩;have HE1:=zZ (ab.trans (((zE w).alloc _).alloc _) hx1);have d0:w1.cell? ⟨w.heap.size+1,0,none⟩=some (D Ab m cb):=hx1.cell (by simp);have b2:w1.cell? ⟨w.heap.size,2,none⟩=some (D A n c):=hx1.cell (by simp);have D0:=zZ d0;have B2:=zZ b2;have HI1:=zZ (H.out.ext (aI.stab p) HE1.out);have HP1:=zZ (HB.out.ext (RI.stab p) HE1.out);clear hx1;cases hv:d9 code var ps with
 |false =>
  have HF:=zZ (cN (fun hk=>by have:=hk.1;rw[hv]at this;cases this):eU code var ps pgs=false);clear hv;go_wp2_with fail;go_ret
  exact⟨aa HF.out.symm,HE1.out⟩
 |true =>
 have HV:=zZ hv;have hvp:=iV hv;have hn1:1≤n:=by have:=HL.out;omega
 have hn24:n≤24:=by have:=HL.out;omega
 clear hv hvp;by_cases hm:m≤12∧m%4=0;case neg =>
  have HF:=zZ (cN (fun hk=>hm (by have h1:=hk.2.1;have h2:=hk.2.2.1;rw[HM.out]at h1 h2;exact⟨h1,h2⟩)):eU code var ps pgs=false);by_cases h12:12<m
  ·clear hm;go_wp2_with fail;go_ret
   exact⟨aa HF.out.symm,HE1.out⟩
  ·have e4:((m:Int)%4 != 0)=true:=by simp;omega
   clear hm;go_wp2_with fail;go_ret
   exact⟨aa HF.out.symm,HE1.out⟩
 case pos =>
 obtain⟨hm12,hm4⟩:=hm;have e4:((m:Int)%4 != 0)=false:=by simp;omega
 have HM4:=zZ hm4;clear hm4;go_wp2_with fail;clear d0 b2 e4;go_loopw [5,30] (fun s5 s30 wr=>∃(i nx:Nat),i≤m∧nx≤n∧s30=B C i∧s5=B C nx∧Hid (jo code var ps pgs i nx∧(0<i→∀l,pgs[0]?=some l→l=[])∧ab w1 wr)) (fun _ i _=>m-(intOf i).toNat)
 case atStart=>exact⟨0,0,by omega,by omega,rfl,rfl,jo.start _ _ _ _,fun h=>absurd h (by omega),zE _⟩
 case round =>
  obtain⟨wo,rfl⟩:=nm (wr:World);obtain⟨i,nx,hi,hnx,rfl,rfl,HR⟩:=hrel;by_cases hlt:i<m
  ·obtain⟨bb,ob,cs0,l0,rfl,_⟩:=HB.out.at_ hlt;obtain⟨u,l,hcu,hIu,HX⟩:=(HP1.out.ext (RI.stab p) HR.out.2.2).page hlt;obtain⟨Au,nu,cu,rfl,hnu,hcu',hnnu,HLU⟩:=hIu.open_;have HIU:=zZ hIu;clear hIu;by_cases hi0:i=0∧0<nu
   ·obtain⟨hi00,hnu0⟩:=hi0;have HF:=zZ (cN (fun hk=>by have:=hk.2.2.2.1 l (by rw[←hi00];exact HX.out);have h2:=HLU.out;rw[this]at h2;simp at h2;omega):eU code var ps pgs=false);have e0:((i:Int)==0)=true:=by simp[hi00]
    clear hi00;go_wp2_with fail;go_ret
    exact⟨aa HF.out.symm,HE1.out.trans HR.out.2.2⟩
   ·have H0:Hid (0<i+1→∀l,pgs[0]?=some l→l=[]):=fun _ l' hl'=>by
     by_cases e:i=0
     ·subst e;rw[HX.out]at hl';have:=xN hl';subst this;have:=HLU.out;exact yO (by omega)
     ·exact HR.out.2.1 (by omega) l' hl'
    have hor:(∃_h:((i:Int)==0)=true,nu<1)∨(∃_h:((i:Int)==0)=false,nu<10000000000000000000):=by
     by_cases e:i=0
     ·exact .inl ⟨by simp[e],by omega⟩
     ·exact .inr ⟨by simp;omega,by omega⟩
    clear hi0;go_upto_region 7 with (fail)
    go_cut [41] (fun s41 wx=>s41=.bool false∧wo=wx)
    case first =>
     rcases hor with ⟨e0,hnu1⟩|⟨e0,hnu1⟩
     ·go_wp2_with fail;go_meet
      exact⟨by simp;omega,rfl⟩
     ·go_wp2_with fail;go_meet
      exact⟨rfl,rfl⟩
    case rest =>
    obtain⟨rfl,hwx⟩:=hcut;subst hwx;clear hor;go_wp2_with fail;go_loopw [5,8,44] (fun s5 s8 s44 wr=>∃(k:Nat) (ln:Int),k≤nu∧nx+k≤n∧0≤ln∧ln≤30*k∧s5=B C ((nx:Int)+k)∧s8=B C ln∧s44=B C k∧Hid (ln=lA (ps.map cm) nx k∧kV (ps.map cm) nx l k∧ab wo wr)) (fun _ _ i _=>nu-(intOf i).toNat)
    case atStart=>exact⟨0,0,by omega,by omega,by omega,by omega,by simp,rfl,rfl,(mw _ _).symm,nR (by have:=HL.out;simp;omega) _,zE _⟩
    case round =>
     obtain⟨k,ln,hk,hnk,hln0,hln1,rfl,rfl,rfl,HQ⟩:=hrel;have HEW:=zZ (HR.out.2.2.trans HQ.out.2.2);have b2:=HEW.out.cell B2.out;by_cases hklt:k<nu
     ·obtain⟨bu,ou,y,rfl,hcy,HY,hy1,hy2⟩:=(HIU.out.ext HQ.out.2.2).at_ hklt;by_cases hg:y=(nx:Int)+k∧nx+k<n
      ·obtain⟨hye,hnkn⟩:=hg;subst hye;obtain⟨b,off,cs1,q1,rfl,_⟩:=H.out.at_ hnkn;obtain⟨q,c0,c1,c2,c3,c4,c5,hw,HXq⟩:=(HI1.out.ext (aI.stab p) HEW.out).part hnkn;have hnb:=nD q;go_wp2_with fail;refine (EF q _).mono ?_;rintro e w2 ⟨rfl,hx2⟩;clear c0 c1 c2 c3 c4 c5 b2 hcy;generalize hxq:cm q=x at *
       have HXN:Hid ((ps.map cm)[nx+k]?=some x):=by have:=kY HXq.out;rw[hxq]at this;exact this
       clear hxq;go_wp2_with fail;go_roundw
       case rel=>exact⟨k+1,ln+x,by omega,by omega,by omega,by omega,by go_num,rfl,by go_num,by rw[jL HXN.out,←HQ.out.1],pn HQ.out.2.1 HY.out (by simp) (by have:=HL.out;simp;omega),HQ.out.2.2.trans hx2⟩
       case measure=>simp[intOf];omega
      ·have HF:=zZ (cN (HR.out.1.bad HX.out (Aj HY.out (by have:=HL.out;simp;omega))):eU code var ps pgs=false);by_cases hye:y=(nx:Int)+k
       ·subst hye;have hnkn:n≤nx+k:=by omega
        clear hg;go_wp2_with fail;go_ret
        exact⟨aa HF.out.symm,HE1.out.trans HEW.out⟩
       ·have e5:(y != (nx:Int)+k)=true:=by simp;exact hye
        clear hg hye;go_wp2_with fail;go_ret
        exact⟨aa HF.out.symm,HE1.out.trans HEW.out⟩
     ·obtain rfl:k=nu:=by omega
      by_cases hln:ln≤30
      ·have HOK:Hid (kz (ps.map cm) nx l):=⟨by rw[HLU.out];exact HQ.out.2.1,by rw[HLU.out,←HQ.out.1];exact hln⟩
       go_wp2_with fail;go_roundw
       case rel=>exact⟨i+1,nx+k,by omega,by omega,by go_num,by go_num,by have:=HR.out.1.next HX.out HOK.out;rw[HLU.out]at this;exact this,H0.out,HEW.out⟩
       case measure=>simp[intOf];omega
      ·have HF:=zZ (cN (HR.out.1.bad HX.out (fun hk=>hln (by have:=hk.2;rw[HLU.out,←HQ.out.1]at this;exact this))):eU code var ps pgs=false);go_wp2_with fail;go_ret
       exact⟨aa HF.out.symm,HE1.out.trans HEW.out⟩
  ·obtain rfl:i=m:=by omega
   have b2:=HR.out.2.2.cell B2.out;have HFIN:Hid (decide (nx=n)=eU code var ps pgs):=by
    show decide (nx=n)=eU code var ps pgs
    have hl:=HR.out.1.fin HM.out;rw[HL.out]at hl;by_cases e:nx=n
    ·rw[nt ⟨HV.out,by rw[HM.out];exact hm12,by rw[HM.out];exact HM4.out,fun l hl'=>HR.out.2.1 (by have:=(zY.1 hl').1;rw[HM.out]at this;omega) l hl',hl.2 e⟩];simp[e]
    ·rw[cN (fun hk=>e (hl.1 hk.2.2.2.2))];simp[e]
   go_wp2_with fail;go_ret
   exact⟨aa (by rw[←HFIN.out,yE];simp;omega),HE1.out.trans HR.out.2.2⟩
end Go.Proofs.YtjgfgdcaocbfhaaGreat

