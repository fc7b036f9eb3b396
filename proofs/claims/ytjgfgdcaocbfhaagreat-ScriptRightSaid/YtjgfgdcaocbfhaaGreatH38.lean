import Derived.Test.YtjgfgdcaocbfhaaGreatH37
import Derived.Test.YtjgfgdcaocbfhaaGreatScP
set_option linter.all false
set_option maxRecDepth 100000
set_option maxHeartbeats 0
namespace Go.Proofs.YtjgfgdcaocbfhaaGreat
open Go.Value renaming int→C,slice→E
open Go.IntKind renaming i64→D
open Go.RowKit _root_.Go.Proofs.Tryz
variable {base c n p:Nat} {w w':World} {a0:Addr} {y z:Int}
theorem Bi(k:Nat):(ib (k+1)).sts=(ib k).sts++[ql k]:=by unfold ib;simp only;rw[yC,yN];rfl
theorem Bl(k:Nat):(ib (k+1)).pgs=(ib k).pgs++[Cw k]:=by unfold ib;simp only;rw[yC,yN];rfl
theorem fp(k:Nat):(ib k).sts.length=k∧(ib k).pgs.length=k:=by unfold ib;simp
theorem gW(w:World):Calls prog 13 #[] w fun e w'=>e=.returned (.bool true)∧ab w w':=by
 obtain⟨iS,hiS,hS0,hS1,hS2⟩:=info_parts Tryz.infoSst;obtain⟨iG,hiG,hG0,hG1,hG2⟩:=info_parts Tryz.infoPg;go_enter func13,ntmps13
 go_upto_region 2 with (fail)
 obtain⟨w2,hw2⟩:=nm (((w.alloc (.cells #[C D 1,C D 3,C D 0,C D 0,C D 0,C D 0] 86)).alloc (.cells #[C D 0,C D 0,E (some ⟨w.heap.size,0,none⟩) 1 1] 89)):World);have HE2:Bx (ab w w2):=⟨by rw[hw2];exact ((zE w).alloc _).alloc _⟩
 have HB0:Bx (Bk w2 w.heap.size #[C D 1,C D 3,C D 0,C D 0,C D 0,C D 0] 86):=⟨by rw[hw2];exact (Bk.new w _ _).alloc _⟩
 have HB1:Bx (Bk w2 (w.heap.size+1) #[C D 0,C D 0,E (some ⟨w.heap.size,0,none⟩) 1 1] 89):=⟨by rw[hw2];have h:=Bk.new (w.alloc (.cells #[C D 1,C D 3,C D 0,C D 0,C D 0,C D 0] 86)) #[C D 0,C D 0,E (some ⟨w.heap.size,0,none⟩) 1 1] 89;simpa using h⟩
 have HC2:Bx (w2.heap.size=w.heap.size+2):=⟨by rw[hw2];simp⟩
 rw[←hw2];clear hw2;have p0:=HB1.out.c 0 rfl;have p1:=HB1.out.c 1 rfl;have p2:=HB1.out.c 2 rfl;go_upto_region 3 with (fail)
 obtain⟨c,hc⟩:=nm w2.heap.size;have ho:∀(W:World) cs t,(W.alloc (.cells cs t)).heap.size=W.heap.size+1:=fun W cs t=>by simp
 obtain⟨w3,hw3⟩:=nm ((((((((w2.alloc (.cells #[C D 0,C D 0,E (some ⟨w.heap.size,0,none⟩) 1 1] 89)).alloc (.cells #[C D 0] 3)).alloc (.cells #[E none 0 0,E (some ⟨w2.heap.size+1,0,none⟩) 1 1,E none 0 0,E none 0 0] 22)).alloc (.cells #[E (some ⟨w2.heap.size+1+1,0,none⟩) 4 4] 92)).alloc (.cells #[C D 5,C D 1,C D 0] 83))).alloc (.cells #[C D 0,E (some ⟨w2.heap.size,0,none⟩) 1 1,E (some ⟨w2.heap.size+1+1+1,0,none⟩) 1 1,E (some ⟨w2.heap.size+1+1+1+1,0,none⟩) 1 1] 27)):World);have HF3:Bx (ae w2 w3 [(c,#[C D 0,C D 0,E (some ⟨w.heap.size,0,none⟩) 1 1],89),(c+1,#[C D 0],3),(c+1+1,#[E none 0 0,E (some ⟨c+1,0,none⟩) 1 1,E none 0 0,E none 0 0],22),(c+1+1+1,#[E (some ⟨c+1+1,0,none⟩) 4 4],92),(c+1+1+1+1,#[C D 5,C D 1,C D 0],83),(c+1+1+1+1+1,#[C D 0,E (some ⟨c,0,none⟩) 1 1,E (some ⟨c+1+1+1,0,none⟩) 1 1,E (some ⟨c+1+1+1+1,0,none⟩) 1 1],27)]):=⟨by rw[hw3,hc];exact ((((((ae.start w2).push _ _ rfl).push _ _ (by simp)).push _ _ (by simp)).push _ _ (by simp)).push _ _ (by simp)).push _ _ (by simp)⟩
 have hsz:w3.heap.size=c+1+1+1+1+1+1:=by rw[hw3,hc];simp
 rw[←hw3,←hc];obtain⟨gs,hgs⟩:=nm (c+1+1+1+1+1);have HSM:Bx (IB w3 w.heap.size c):=⟨⟨by have:=HC2.out;omega,HB0.out.ext HF3.out.xt,HF3.out.at_ 0 rfl,HF3.out.at_ 1 rfl,HF3.out.at_ 2 rfl,HF3.out.at_ 3 rfl,HF3.out.at_ 4 rfl⟩⟩
 have HSI:=zZ (aN.re HSM.out.isSit (zX _));have HE3:=zZ (HE2.out.trans HF3.out.xt);have HBS:Bx (Bk w3 gs #[C D 0,E (some ⟨c,0,none⟩) 1 1,E (some ⟨c+1+1+1,0,none⟩) 1 1,E (some ⟨c+1+1+1+1,0,none⟩) 1 1] 27):=⟨by rw[hgs];exact HF3.out.at_ 5 rfl⟩
 have HGW:Bx (w.heap.size≤gs):=⟨by have:=HC2.out;omega⟩
 rw[←hgs];have HS3:Bx (w3.heap.size=gs+1):=⟨by rw[hsz,hgs]⟩
 clear hw3 hc hsz hgs HF3 HSM HB0 HB1 HE2 p0 p1 p2 ho HC2;go_upto_region 4 with (fail)
 obtain⟨gi,hgi⟩:=nm w3.heap.size;obtain⟨w4,hw4⟩:=nm ((w3.alloc (.cells #[E none 0 0,E none 0 0] 31)):World);have HF4:Bx (ae w w4 [(gs,#[C D 0,E (some ⟨c,0,none⟩) 1 1,E (some ⟨c+1+1+1,0,none⟩) 1 1,E (some ⟨c+1+1+1+1,0,none⟩) 1 1],27),(gi,#[E none 0 0,E none 0 0],31)]):=⟨by rw[hw4];have h0:ae w w3 [(gs,#[C D 0,E (some ⟨c,0,none⟩) 1 1,E (some ⟨c+1+1+1,0,none⟩) 1 1,E (some ⟨c+1+1+1+1,0,none⟩) 1 1],27)]:=ae.add (L:=[]) ⟨HE3.out,dW.nil _ _⟩ HBS.out HGW.out (fun k x hk=>by simp at hk);exact h0.push _ _ hgi.symm⟩
 have HSI4:Bx (aN gi w4 (.agg #[C D 0,E (some ⟨c,0,none⟩) 1 1,E (some ⟨c+1+1+1,0,none⟩) 1 1,E (some ⟨c+1+1+1+1,0,none⟩) 1 1]) qz):=⟨by rw[hw4,hgi];exact HSI.out.ext ((zE _).alloc _)⟩
 have HS4:Bx (w4.heap.size=gi+1):=⟨by rw[hw4,hgi];simp⟩
 rw[←hw4,←hgi];clear hw4 hgi HE3 HSI HBS HGW HS3;go_wp2_with fail;go_loopw [4] (fun s4 wr=>∃(k:Nat) (vS vG:Value),s4=C D k∧k≤4∧Bx (ae w wr [(gs,#[C D 0,E (some ⟨c,0,none⟩) 1 1,E (some ⟨c+1+1+1,0,none⟩) 1 1,E (some ⟨c+1+1+1+1,0,none⟩) 1 1],27),(gi,#[vS,vG],31)]∧XT gi w4 wr∧D8 wr (gi+1) vS vG k)) (fun k _=>4-(intOf k).toNat)
 case atStart=>exact⟨0,E none 0 0,E none 0 0,rfl,by omega,⟨⟨HF4.out,XT.refl _ _,⟨aL.nil,aL.nil⟩⟩⟩⟩
 case round =>
  obtain⟨k,vS,vG,rfl,hk,HR⟩:=hrel;obtain⟨AS,cS,hu⟩:=HR.out.2.2.s.form;obtain⟨AG,cG,hu2⟩:=HR.out.2.2.g.form;rw[(fp k).1]at hu;rw[(fp k).2]at hu2;subst hu hu2;have HFr:Bx (ae w wr [(gs,#[C D 0,E (some ⟨c,0,none⟩) 1 1,E (some ⟨c+1+1+1,0,none⟩) 1 1,E (some ⟨c+1+1+1+1,0,none⟩) 1 1],27),(gi,#[E AS k cS,E AG k cG],31)]):=⟨HR.out.1⟩
  have HXr:Bx (XT gi w4 wr):=⟨HR.out.2.1⟩
  have HRr:Bx (D8 wr (gi+1) (E AS k cS) (E AG k cG) k):=⟨HR.out.2.2⟩
  clear HR HF4;by_cases hk4:k<4
  ·by_cases hk2:k=2
   ·have hkb:((k:Int)==2)=true:=by simp[hk2]
    have HK2:=zZ hk2;clear hk2;obtain⟨z0,z1,z2,z3⟩:=(HFr.out.at_ 0 rfl).p4 rfl;obtain⟨j0,j1⟩:=(HFr.out.at_ 1 rfl).p2 rfl;have hcon:i4=i4:=rfl;clear hcon;have HST:Bx (Calls prog 10 #[.agg #[C D 0,E (some ⟨c,0,none⟩) 1 1,E (some ⟨c+1+1+1,0,none⟩) 1 1,E (some ⟨c+1+1+1+1,0,none⟩) 1 1],.agg #[E AS k cS,E AG k cG]] wr (i4 wr 0 [⟨5,2,[2,3]⟩])):=⟨by have hr2:∀(vS vG:Value) (j:Nat),j=2→D8 wr (gi+1) vS vG j→D8 wr (gi+1) vS vG 2:=fun vS vG j e h=>e▸h;have h:=pN (.agg #[C D 0,E (some ⟨c,0,none⟩) 1 1,E (some ⟨c+1+1+1,0,none⟩) 1 1,E (some ⟨c+1+1+1+1,0,none⟩) 1 1]) (.agg #[E AS k cS,E AG k cG]) qz (ib 2) wr (p:=gi) (by have:=HS4.out;have:=HXr.out.size;omega) (HSI4.out.xt HXr.out) ((hr2 _ _ k HK2.out HRr.out).isItk (by omega) (by omega)) (by decide) (by decide);rw[if_pos (eQ.2 (rD (by omega))),if_pos (eQ.2 (rD (by omega))),Cx]at h;exact h⟩
    go_upto_region 9 with (go_at_call 10;refine HST.out.mono ?_;rintro e w5 ⟨⟨vr,ys,rfl,hrow,hys⟩,hx5⟩)
    have hrs:=hrow.isS (p:=gi) (by have:=HS4.out;have:=HXr.out.size;omega);rw[hys]at hrs;obtain⟨A5,n5,c5,rfl,-,-,-,HN5⟩:=hrs.open_;obtain rfl:n5=1:=by have:=HN5.out;simpa using this.symm
    obtain⟨b9,o9,_,_,rfl,-⟩:=hrs.at_ (show 0<1 by omega);obtain⟨cs,x,-,hcc,⟨u,hcs,hiu⟩,HX⟩:=hrs.cell_ (show 0<1 by omega);have hx:x=⟨5,2,[2,3]⟩:=by have:=HX.out;simp at this;exact this.symm
    subst hx;obtain⟨A6,n6,c6,rfl,-⟩:=hiu.open_;have e1:w5.cell? ⟨b9,o9+1,none⟩=some (C D 2):=by have h:=hcc 1 (C D 2) (by rw[hcs];rfl);simpa using h
    have e2:w5.cell? ⟨b9,o9+2,none⟩=some (E A6 n6 c6):=by have h:=hcc 2 (E A6 n6 c6) (by rw[hcs];rfl);simpa using h
    have HIU:=zZ hiu;have HF5:=zZ (HFr.out.ext hx5);have HX5:=zZ (HXr.out.ext hx5);have HR5:=zZ (HRr.out.ext hx5);have e2':(w5.alloc (.cells #[C D 2,C D 3] 3)).cell? ⟨b9,o9+2,none⟩=some (E A6 n6 c6):=((zE w5).alloc _).cell e2;clear hrow hys hrs hcc hcs hiu HX HN5 HST hx5 HFr HXr HRr z0 z1 z2 z3 j0 j1;go_upto_region 11 with (go_at_call 12;refine (dH _ _ [2,3] [2,3] _ (HIU.out.ext ((zE w5).alloc _)) (ao.lit (p:=gi) [2,3] 3 (by have:=HS4.out;have:=HX5.out.size;omega) (by decide) (by decide))).mono ?_;rintro e w6 ⟨rfl,hx6⟩;have HF6:=zZ ((HF5.out.ext ((zE _).alloc _)).ext hx6);have HX6:=zZ ((HX5.out.alloc _).ext hx6);have HR6:=zZ ((HR5.out.ext ((zE _).alloc _)).ext hx6))
    clear HF5 HX5 HR5 HIU e1 e2 e2';obtain⟨gd,hgd⟩:=nm w6.heap.size;go_upto_region 12 with (fail)
    obtain⟨w7,hw7⟩:=nm ((w6.alloc (.cells #[C D 0,C D k] 71)):World);have HF7:Bx (ae w w7 [(gs,#[C D 0,E (some ⟨c,0,none⟩) 1 1,E (some ⟨c+1+1+1,0,none⟩) 1 1,E (some ⟨c+1+1+1+1,0,none⟩) 1 1],27),(gi,#[E AS k cS,E AG k cG],31)]):=⟨by rw[hw7];exact HF6.out.ext ((zE _).alloc _)⟩
    have HX7:Bx (XT gi w4 w7):=⟨by rw[hw7];exact HX6.out.alloc _⟩
    have HR7:Bx (D8 w7 (gi+1) (E AS k cS) (E AG k cG) k):=⟨by rw[hw7];exact HR6.out.ext ((zE _).alloc _)⟩
    have HD7:Bx (Bk w7 gd #[C D 0,C D k] 71):=⟨by rw[hw7,hgd];exact Bk.new _ _ _⟩
    have HGD:Bx (gd≠gi):=⟨by have:=HF6.out.bl.lt 1 rfl;omega⟩
    rw[←hw7,←hgd];clear hw7 hgd HF6 HX6 HR6;have d0:=HD7.out.c 0 rfl;have d1:=HD7.out.c 1 rfl;have j0:=(HF7.out.at_ 1 rfl).c 0 rfl;have f0:=(HF7.out.at_ 1 rfl).froz;have HW4:Bx (w.heap.size≤gi+1):=⟨by have:=HF7.out.bl.ge 1 rfl;omega⟩
    have HW7:Bx (gi+1≤w7.heap.size):=⟨by have:=HS4.out;have:=HX7.out.size;omega⟩
    have HO7:=zZ (show w7.ownsRow (gi+1) 75 7 (E AS k cS) k ((ib k).sts.map aY.cells).flatten from by have h:=HR7.out.s.own;rw[(fp k).1]at h;exact h);go_upto_region 13 with (at_builtin;go_loud (refine aH _ rfl (.tmp 60) (.tmp 65) 28 rfl (gi+1) 75 iS _ 7 56 underlying28 hiS hS0 hS1 hS2 rfl (by omega) (E AS k cS) k ((ib k).sts.map aY.cells).flatten rfl (ac HO7.out ((zE _).alloc _)) _ #[C D 0,C D k,C D 1,C D 0,C D 5,C D k,C D 0] _ rfl (heap_alloc_new _ _) rfl (by simp[Value.oneCell']) (by omega) (by omega) (by have:=HW7.out;simp;omega) ?_;intro v8 w8 hown8 hg8;obtain⟨g8,c8,rfl,-,-⟩:=aQ hown8 (by omega);have HF8:=zZ ((HF7.out.ext ((zE _).alloc _)).grownT (ac HO7.out ((zE _).alloc _)) hg8 HW4.out rfl);have HX8:=zZ ((HX7.out.alloc _).grown hg8 (fun k' hk'=>by have h1:=ar HO7.out k' hk';have:=HS4.out;omega));have HS8:Bx (aL (gi+1) 75 7 aY.cells w8 (E (some ⟨g8,0,none⟩) (k+1) c8) (ib (k+1)).sts):=⟨by rw[Bi];exact aL.push (by rw[(fp k).1];exact hown8)⟩;have HG8:Bx (aL (gi+1) 77 6 Ec w8 (E AG k cG) (ib k).pgs):=⟨a8 (HR7.out.g.ext ((zE _).alloc _)).own (ac HO7.out ((zE _).alloc _)) (by decide) hg8⟩;have HD8:=zZ (dn (HD7.out.ext ((zE _).alloc _)) (ac HO7.out ((zE _).alloc _)) (by decide) hg8);clear hown8 hg8 j0 f0 d0 d1;have j0:=(HF8.out.at_ 1 rfl).c 0 rfl;have f0:=(HF8.out.at_ 1 rfl).froz 0))
    have hF9:=HF8.out.set 1 rfl 0 (E (some ⟨g8,0,none⟩) (k+1) c8);have hX9:=HX8.out.setCell (a:=⟨gi,0,none⟩) rfl (E (some ⟨g8,0,none⟩) (k+1) c8);have hS9:=bm (a:=⟨gi,0,none⟩) HS8.out.own (fun e=>by have:=(HS8.out.own.lt _ e).1;simp only at this;omega) (E (some ⟨g8,0,none⟩) (k+1) c8);have hG9:=bm (a:=⟨gi,0,none⟩) HG8.out.own (fun e=>by have:=(HG8.out.own.lt _ e).1;simp only at this;omega) (E (some ⟨g8,0,none⟩) (k+1) c8);have hD9:=HD8.out.far (a:=⟨gi,0,none⟩) (HGD.out) (E (some ⟨g8,0,none⟩) (k+1) c8);obtain⟨w9,hw9⟩:=nm ((w8.setCell ⟨gi,0,none⟩ (E (some ⟨g8,0,none⟩) (k+1) c8)):World);rw[←hw9]at hF9 hX9 hS9 hG9 hD9;rw[←hw9];have HF9:Bx (ae w w9 [(gs,#[C D 0,E (some ⟨c,0,none⟩) 1 1,E (some ⟨c+1+1+1,0,none⟩) 1 1,E (some ⟨c+1+1+1+1,0,none⟩) 1 1],27),(gi,#[E (some ⟨g8,0,none⟩) (k+1) c8,E AG k cG],31)]):=⟨hF9⟩
    have HX9:=zZ hX9;have HS9:Bx (aL (gi+1) 75 7 aY.cells w9 (E (some ⟨g8,0,none⟩) (k+1) c8) (ib (k+1)).sts):=⟨hS9⟩
    have HG9:Bx (aL (gi+1) 77 6 Ec w9 (E AG k cG) (ib k).pgs):=⟨hG9⟩
    have HD9:Bx (Bk w9 gd #[C D 0,C D k] 71):=⟨hD9⟩
    clear hw9 hF9 hX9 hS9 hG9 hD9 HF8 HX8 HS8 HG8 HD8 HF7 HX7 HR7 HD7 HO7 j0 f0;have d0:=HD9.out.c 0 rfl;have d1:=HD9.out.c 1 rfl;have j1:=(HF9.out.at_ 1 rfl).c 1 rfl;have HW9:Bx (gi+1≤w9.heap.size):=⟨by have:=HS4.out;have:=HX9.out.size;omega⟩
    have HO9:=zZ (show w9.ownsRow (gi+1) 77 6 (E AG k cG) k ((ib k).pgs.map Ec).flatten from by have h:=HG9.out.own;rw[(fp k).2]at h;exact h);go_wp2_with (at_builtin;go_loud (refine aH _ rfl (.tmp 69) (.tmp 75) 29 rfl (gi+1) 77 iG _ 6 64 underlying29 hiG hG0 hG1 hG2 rfl (by omega) (E AG k cG) k ((ib k).pgs.map Ec).flatten rfl (ac HO9.out ((zE _).alloc _)) _ #[C D 5,C D k,C D (10+(k:Int)),E none 0 0,C D 0,C D k] _ rfl (heap_alloc_new _ _) rfl (by simp[Value.oneCell']) (by omega) (by omega) (by have:=HW9.out;simp;omega) ?_;intro v10 w10 hown10 hg10;obtain⟨g10,c10,rfl,-,-⟩:=aQ hown10 (by omega);have HF10:=zZ ((HF9.out.ext ((zE _).alloc _)).grownT (ac HO9.out ((zE _).alloc _)) hg10 HW4.out rfl);have HX10:=zZ ((HX9.out.alloc _).grown hg10 (fun k' hk'=>by have h1:=ar HO9.out k' hk';have:=HS4.out;omega));have HG10:Bx (aL (gi+1) 77 6 Ec w10 (E (some ⟨g10,0,none⟩) (k+1) c10) (ib (k+1)).pgs):=⟨by rw[Bl];exact aL.push (by rw[(fp k).2];exact hown10)⟩;have HS10:Bx (aL (gi+1) 75 7 aY.cells w10 (E (some ⟨g8,0,none⟩) (k+1) c8) (ib (k+1)).sts):=⟨a8 (HS9.out.ext ((zE _).alloc _)).own (ac HO9.out ((zE _).alloc _)) (by decide) hg10⟩;clear hown10 hg10 d0 d1 j1;have j1:=(HF10.out.at_ 1 rfl).c 1 rfl;have f1:=(HF10.out.at_ 1 rfl).froz 1));have hF11:=HF10.out.set 1 rfl 1 (E (some ⟨g10,0,none⟩) (k+1) c10);have hX11:=HX10.out.setCell (a:=⟨gi,1,none⟩) rfl (E (some ⟨g10,0,none⟩) (k+1) c10);have hS11:=bm (a:=⟨gi,1,none⟩) HS10.out.own (fun e=>by have:=(HS10.out.own.lt _ e).1;simp only at this;omega) (E (some ⟨g10,0,none⟩) (k+1) c10);have hG11:=bm (a:=⟨gi,1,none⟩) HG10.out.own (fun e=>by have:=(HG10.out.own.lt _ e).1;simp only at this;omega) (E (some ⟨g10,0,none⟩) (k+1) c10);go_roundw
    case rel=>exact⟨k+1,_,_,by go_num,by omega,⟨⟨hF11,hX11,⟨hS11,hG11⟩⟩⟩⟩
    case measure=>simp[intOf];omega
   ·have hkb:((k:Int)==2)=false:=by simp;omega
    go_upto_region 11 with (fail)
    have HF6:=HFr;have HX6:=HXr;have HR6:=HRr;clear HFr HXr HRr;obtain⟨gd,hgd⟩:=nm wr.heap.size;go_upto_region 12 with (fail)
    obtain⟨w7,hw7⟩:=nm ((wr.alloc (.cells #[C D 0,C D k] 71)):World);have HF7:Bx (ae w w7 [(gs,#[C D 0,E (some ⟨c,0,none⟩) 1 1,E (some ⟨c+1+1+1,0,none⟩) 1 1,E (some ⟨c+1+1+1+1,0,none⟩) 1 1],27),(gi,#[E AS k cS,E AG k cG],31)]):=⟨by rw[hw7];exact HF6.out.ext ((zE _).alloc _)⟩
    have HX7:Bx (XT gi w4 w7):=⟨by rw[hw7];exact HX6.out.alloc _⟩
    have HR7:Bx (D8 w7 (gi+1) (E AS k cS) (E AG k cG) k):=⟨by rw[hw7];exact HR6.out.ext ((zE _).alloc _)⟩
    have HD7:Bx (Bk w7 gd #[C D 0,C D k] 71):=⟨by rw[hw7,hgd];exact Bk.new _ _ _⟩
    have HGD:Bx (gd≠gi):=⟨by have:=HF6.out.bl.lt 1 rfl;omega⟩
    rw[←hw7,←hgd];clear hw7 hgd HF6 HX6 HR6;have d0:=HD7.out.c 0 rfl;have d1:=HD7.out.c 1 rfl;have j0:=(HF7.out.at_ 1 rfl).c 0 rfl;have f0:=(HF7.out.at_ 1 rfl).froz;have HW4:Bx (w.heap.size≤gi+1):=⟨by have:=HF7.out.bl.ge 1 rfl;omega⟩
    have HW7:Bx (gi+1≤w7.heap.size):=⟨by have:=HS4.out;have:=HX7.out.size;omega⟩
    have HO7:=zZ (show w7.ownsRow (gi+1) 75 7 (E AS k cS) k ((ib k).sts.map aY.cells).flatten from by have h:=HR7.out.s.own;rw[(fp k).1]at h;exact h);go_upto_region 13 with (at_builtin;go_loud (refine aH _ rfl (.tmp 60) (.tmp 65) 28 rfl (gi+1) 75 iS _ 7 56 underlying28 hiS hS0 hS1 hS2 rfl (by omega) (E AS k cS) k ((ib k).sts.map aY.cells).flatten rfl (ac HO7.out ((zE _).alloc _)) _ #[C D 0,C D k,C D 1,C D 0,C D 5,C D k,C D 0] _ rfl (heap_alloc_new _ _) rfl (by simp[Value.oneCell']) (by omega) (by omega) (by have:=HW7.out;simp;omega) ?_;intro v8 w8 hown8 hg8;obtain⟨g8,c8,rfl,-,-⟩:=aQ hown8 (by omega);have HF8:=zZ ((HF7.out.ext ((zE _).alloc _)).grownT (ac HO7.out ((zE _).alloc _)) hg8 HW4.out rfl);have HX8:=zZ ((HX7.out.alloc _).grown hg8 (fun k' hk'=>by have h1:=ar HO7.out k' hk';have:=HS4.out;omega));have HS8:Bx (aL (gi+1) 75 7 aY.cells w8 (E (some ⟨g8,0,none⟩) (k+1) c8) (ib (k+1)).sts):=⟨by rw[Bi];exact aL.push (by rw[(fp k).1];exact hown8)⟩;have HG8:Bx (aL (gi+1) 77 6 Ec w8 (E AG k cG) (ib k).pgs):=⟨a8 (HR7.out.g.ext ((zE _).alloc _)).own (ac HO7.out ((zE _).alloc _)) (by decide) hg8⟩;have HD8:=zZ (dn (HD7.out.ext ((zE _).alloc _)) (ac HO7.out ((zE _).alloc _)) (by decide) hg8);clear hown8 hg8 j0 f0 d0 d1;have j0:=(HF8.out.at_ 1 rfl).c 0 rfl;have f0:=(HF8.out.at_ 1 rfl).froz 0))
    have hF9:=HF8.out.set 1 rfl 0 (E (some ⟨g8,0,none⟩) (k+1) c8);have hX9:=HX8.out.setCell (a:=⟨gi,0,none⟩) rfl (E (some ⟨g8,0,none⟩) (k+1) c8);have hS9:=bm (a:=⟨gi,0,none⟩) HS8.out.own (fun e=>by have:=(HS8.out.own.lt _ e).1;simp only at this;omega) (E (some ⟨g8,0,none⟩) (k+1) c8);have hG9:=bm (a:=⟨gi,0,none⟩) HG8.out.own (fun e=>by have:=(HG8.out.own.lt _ e).1;simp only at this;omega) (E (some ⟨g8,0,none⟩) (k+1) c8);have hD9:=HD8.out.far (a:=⟨gi,0,none⟩) (HGD.out) (E (some ⟨g8,0,none⟩) (k+1) c8);obtain⟨w9,hw9⟩:=nm ((w8.setCell ⟨gi,0,none⟩ (E (some ⟨g8,0,none⟩) (k+1) c8)):World);rw[←hw9]at hF9 hX9 hS9 hG9 hD9;rw[←hw9];have HF9:Bx (ae w w9 [(gs,#[C D 0,E (some ⟨c,0,none⟩) 1 1,E (some ⟨c+1+1+1,0,none⟩) 1 1,E (some ⟨c+1+1+1+1,0,none⟩) 1 1],27),(gi,#[E (some ⟨g8,0,none⟩) (k+1) c8,E AG k cG],31)]):=⟨hF9⟩
    have HX9:=zZ hX9;have HS9:Bx (aL (gi+1) 75 7 aY.cells w9 (E (some ⟨g8,0,none⟩) (k+1) c8) (ib (k+1)).sts):=⟨hS9⟩
    have HG9:Bx (aL (gi+1) 77 6 Ec w9 (E AG k cG) (ib k).pgs):=⟨hG9⟩
    have HD9:Bx (Bk w9 gd #[C D 0,C D k] 71):=⟨hD9⟩
    clear hw9 hF9 hX9 hS9 hG9 hD9 HF8 HX8 HS8 HG8 HD8 HF7 HX7 HR7 HD7 HO7 j0 f0;have d0:=HD9.out.c 0 rfl;have d1:=HD9.out.c 1 rfl;have j1:=(HF9.out.at_ 1 rfl).c 1 rfl;have HW9:Bx (gi+1≤w9.heap.size):=⟨by have:=HS4.out;have:=HX9.out.size;omega⟩
    have HO9:=zZ (show w9.ownsRow (gi+1) 77 6 (E AG k cG) k ((ib k).pgs.map Ec).flatten from by have h:=HG9.out.own;rw[(fp k).2]at h;exact h);go_wp2_with (at_builtin;go_loud (refine aH _ rfl (.tmp 69) (.tmp 75) 29 rfl (gi+1) 77 iG _ 6 64 underlying29 hiG hG0 hG1 hG2 rfl (by omega) (E AG k cG) k ((ib k).pgs.map Ec).flatten rfl (ac HO9.out ((zE _).alloc _)) _ #[C D 5,C D k,C D (10+(k:Int)),E none 0 0,C D 0,C D k] _ rfl (heap_alloc_new _ _) rfl (by simp[Value.oneCell']) (by omega) (by omega) (by have:=HW9.out;simp;omega) ?_;intro v10 w10 hown10 hg10;obtain⟨g10,c10,rfl,-,-⟩:=aQ hown10 (by omega);have HF10:=zZ ((HF9.out.ext ((zE _).alloc _)).grownT (ac HO9.out ((zE _).alloc _)) hg10 HW4.out rfl);have HX10:=zZ ((HX9.out.alloc _).grown hg10 (fun k' hk'=>by have h1:=ar HO9.out k' hk';have:=HS4.out;omega));have HG10:Bx (aL (gi+1) 77 6 Ec w10 (E (some ⟨g10,0,none⟩) (k+1) c10) (ib (k+1)).pgs):=⟨by rw[Bl];exact aL.push (by rw[(fp k).2];exact hown10)⟩;have HS10:Bx (aL (gi+1) 75 7 aY.cells w10 (E (some ⟨g8,0,none⟩) (k+1) c8) (ib (k+1)).sts):=⟨a8 (HS9.out.ext ((zE _).alloc _)).own (ac HO9.out ((zE _).alloc _)) (by decide) hg10⟩;clear hown10 hg10 d0 d1 j1;have j1:=(HF10.out.at_ 1 rfl).c 1 rfl;have f1:=(HF10.out.at_ 1 rfl).froz 1));have hF11:=HF10.out.set 1 rfl 1 (E (some ⟨g10,0,none⟩) (k+1) c10);have hX11:=HX10.out.setCell (a:=⟨gi,1,none⟩) rfl (E (some ⟨g10,0,none⟩) (k+1) c10);have hS11:=bm (a:=⟨gi,1,none⟩) HS10.out.own (fun e=>by have:=(HS10.out.own.lt _ e).1;simp only at this;omega) (E (some ⟨g10,0,none⟩) (k+1) c10);have hG11:=bm (a:=⟨gi,1,none⟩) HG10.out.own (fun e=>by have:=(HG10.out.own.lt _ e).1;simp only at this;omega) (E (some ⟨g10,0,none⟩) (k+1) c10);go_roundw
    case rel=>exact⟨k+1,_,_,by go_num,by omega,⟨⟨hF11,hX11,⟨hS11,hG11⟩⟩⟩⟩
    case measure=>simp[intOf];omega
  ·obtain rfl:k=4:=by omega
   obtain⟨z0,z1,z2,z3⟩:=(HFr.out.at_ 0 rfl).p4 rfl;obtain⟨j0,j1⟩:=(HFr.out.at_ 1 rfl).p2 rfl;have HAC:Bx (Calls prog 15 #[.agg #[C D 0,E (some ⟨c,0,none⟩) 1 1,E (some ⟨c+1+1+1,0,none⟩) 1 1,E (some ⟨c+1+1+1+1,0,none⟩) 1 1],.agg #[E AS 4 cS,E AG 4 cG],.agg #[C D 6,C D 3,C D 2]] wr (Ae wr 0 [⟨5,0,5,1,0,[10,11,12,13],[-1]⟩])):=⟨by have h:=pZ (.agg #[C D 0,E (some ⟨c,0,none⟩) 1 1,E (some ⟨c+1+1+1,0,none⟩) 1 1,E (some ⟨c+1+1+1+1,0,none⟩) 1 1]) (.agg #[E AS 4 cS,E AG 4 cG]) qz (ib 4) 6 3 2 wr (p:=gi) (by have:=HS4.out;have:=HXr.out.size;omega) (HSI4.out.xt HXr.out) (HRr.out.isItk (by omega) (by omega)) (by decide) (by decide);rw[EL.1,EL.2]at h;exact h⟩
   go_upto_region 15 with (go_at_call 15;refine HAC.out.mono ?_;rintro e w5 ⟨⟨vr,ys,rfl,hrow,hys⟩,hx5⟩)
   have hrs:=hrow.isS (p:=gi) (by have:=HS4.out;have:=HXr.out.size;omega);rw[hys]at hrs;have HRS:=zZ hrs;obtain⟨A5,n5,c5,rfl,-,-,-,HN5⟩:=hrs.open_;obtain rfl:n5=1:=by have:=HN5.out;simpa using this.symm
   obtain⟨b9,o9,_,_,rfl,-⟩:=hrs.at_ (show 0<1 by omega);obtain⟨cs,x,-,hcc,⟨u1,u2,hcs,hi1,hi2⟩,HX⟩:=hrs.cell_ (show 0<1 by omega);have hx:x=⟨5,0,5,1,0,[10,11,12,13],[-1]⟩:=by have:=HX.out;simp at this;exact this.symm
   subst hx;obtain⟨A6,n6,c6,rfl,-⟩:=hi1.open_;obtain⟨A7,n7,c7,rfl,-⟩:=hi2.open_;have e0:w5.cell? ⟨b9,o9,none⟩=some (C D 5):=by have h:=hcc 0 (C D 5) (by rw[hcs];rfl);simpa using h
   have e5:w5.cell? ⟨b9,o9+5,none⟩=some (E A6 n6 c6):=by have h:=hcc 5 (E A6 n6 c6) (by rw[hcs];rfl);simpa using h
   have e6:w5.cell? ⟨b9,o9+6,none⟩=some (E A7 n7 c7):=by have h:=hcc 6 (E A7 n7 c7) (by rw[hcs];rfl);simpa using h
   have HI1:=zZ hi1;have HI2:=zZ hi2;have HF5:=zZ (HFr.out.ext hx5);have HX5:=zZ (HXr.out.ext hx5);have HR5:=zZ (HRr.out.ext hx5);have e5':=((zE w5).alloc (.cells #[C D 10,C D 11,C D 12,C D 13] 3)).cell e5;clear hrow hys hrs hcc hcs hi1 hi2 HX HN5 HAC hx5 HFr HXr HRr z0 z1 z2 z3 j0 j1;go_wp2_with fail;refine (dH _ _ [10,11,12,13] [10,11,12,13] _ (HI1.out.ext ((zE w5).alloc _)) (ao.lit (p:=gi) [10,11,12,13] 3 (by have:=HS4.out;have:=HX5.out.size;omega) (by decide) (by decide))).mono ?_;rintro e w6 ⟨rfl,hx6⟩;have HE6:=zZ (((zE w5).alloc (.cells #[C D 10,C D 11,C D 12,C D 13] 3)).trans hx6);replace e6:=HE6.out.cell e6;have e6':=((zE w6).alloc (.cells #[C D (-1)] 3)).cell e6;rw[show decide ([10,11,12,13]=([10,11,12,13]:List Int))=true from decide_eq_true rfl];clear e0 e5 e5' hx6;go_wp2_with fail;refine (dH _ _ [-1] [-1] _ (HI2.out.ext (HE6.out.alloc _)) (ao.lit (p:=gi) [-1] 3 (by have:=HS4.out;have:=HX5.out.size;have:=HE6.out.size;omega) (by decide) (by decide))).mono ?_;rintro e w7 ⟨rfl,hx7⟩;rw[show decide ([-1]=([-1]:List Int))=true from decide_eq_true rfl];clear e6 e6';have HE7:=zZ (HE6.out.trans (((zE _).alloc _).trans hx7));have HF7:=zZ (HF5.out.ext HE7.out);obtain⟨z0,z1,z2,z3⟩:=(HF7.out.at_ 0 rfl).p4 rfl;obtain⟨j0,j1⟩:=(HF7.out.at_ 1 rfl).p2 rfl;go_wp2_with fail;refine (Cg _ _ _ qz (ib 4) [⟨5,0,5,1,0,[10,11,12,13],[-1]⟩] _ (p:=gi) (by have:=HS4.out;have:=HX5.out.size;have:=HE7.out.size;omega) (HSI4.out.xt (HX5.out.ext HE7.out)) ((HR5.out.ext HE7.out).isItk (by omega) (by omega)) (HRS.out.ext (Eq.stab gi) HE7.out) (by decide) (by decide) (by decide)).mono ?_;rintro e w8 ⟨rfl,hx8⟩;rw[Er];go_wp2_with fail;go_ret
   exact⟨rfl,HF7.out.xt.trans hx8⟩
theorem dd.xt(h:XT p w w'):dd p w w':=fun a x ha hc=>⟨x,fun h=>h,h.cell hc ha⟩
theorem lP(hc:w.cell? a0=some (C D y))(hz:aC z):dd p w (w.setCell a0 (C D z)):=fun a x ha hx=>by
 by_cases e:a0=a
 ·subst e;exact⟨z,fun _=>hz,World.cell?_setCell_same _ _ _ hc⟩
 ·exact⟨x,fun h=>h,by rw[World.cell?_setCell_other _ _ _ _ e];exact hx⟩
theorem nd{B:Option Addr}{m d:Nat}{u:Value}(hc:w.cell? a0=some (E B m d)):dd p w (w.setCell a0 u):=fun a x ha hx=>by
 have e:a0≠a:=fun e=>by subst e;rw[hc]at hx;cases hx
 exact⟨x,fun h=>h,by rw[World.cell?_setCell_other _ _ _ _ e];exact hx⟩
theorem ne{a:Addr}{B:Option Addr}{m d:Nat}(hc:w.cell? a0=some (C D y))(h:w.cell? a=some (E B m d)):(w.setCell a0 (C D z)).cell? a=some (E B m d):=by rw[World.cell?_setCell_other _ _ _ _ (fun e=>by subst e;rw[hc]at h;cases h)];exact h
theorem fF.kk{g off:Nat}{l:List oy}(h:fF p w (E (some ⟨g,off,none⟩) n c) l)(hk:dd p w w')(hs:∀i B m d,w.cell? ⟨g,i,none⟩=some (E B m d)→∃u,w'.cell? ⟨g,i,none⟩=some u∧(u=E B m d∨∃l',ao p w' u l')):∃l',fF p w' (E (some ⟨g,off,none⟩) n c) l'∧l'.length=l.length:=by
 obtain⟨A',c',hv,h1,h2,h4⟩:=h;injection hv with ha hn hc;subst ha;subst hc;obtain⟨l',hl',hP⟩:=nO (P:=fun k (y:oy)=>g≠p∧∃cs:List Value,cs.length=7∧(∀j z,cs[j]?=some z→w'.cell? ⟨g,off+k*7+j,none⟩=some z)∧Eq p w' cs y) l fun k x hx=>by
  obtain⟨b,o,cs,ha,hb,hcl,hcell,u1,u2,rfl,i1,i2⟩:=h4 k x hx;cases ha;have ic:∀(j:Nat) (y:Int),w.cell? ⟨g,off+k*7+j,none⟩=some (C D y)→∃y',w'.cell? ⟨g,off+k*7+j,none⟩=some (C D y'):=fun j y hy=>by obtain⟨y',_,hy'⟩:=hk ⟨g,off+k*7+j,none⟩ y hb hy;exact⟨y',hy'⟩
  obtain⟨y0,e0⟩:=ic 0 _ (hcell 0 _ rfl);obtain⟨y1,e1⟩:=ic 1 _ (hcell 1 _ rfl);obtain⟨y2,e2⟩:=ic 2 _ (hcell 2 _ rfl);obtain⟨y3,e3⟩:=ic 3 _ (hcell 3 _ rfl);obtain⟨y4,e4⟩:=ic 4 _ (hcell 4 _ rfl);have sc:∀(j:Nat) (u:Value) (l0:List Int),w.cell? ⟨g,off+k*7+j,none⟩=some u→ao p w u l0→∃u' l1,w'.cell? ⟨g,off+k*7+j,none⟩=some u'∧ao p w' u' l1:=fun j u l0 hu hi=>by
   obtain⟨B,m,d,rfl,-⟩:=hi.open_;obtain⟨u',hu',rfl|⟨l1,hl1⟩⟩:=hs _ B m d hu
   ·obtain⟨l1,hl1,-⟩:=hi.keepInt hk;exact⟨_,l1,hu',hl1⟩
   ·exact⟨u',l1,hu',hl1⟩
  obtain⟨v1,l1,e5,j1⟩:=sc 5 u1 _ (hcell 5 _ rfl) i1;obtain⟨v2,l2,e6,j2⟩:=sc 6 u2 _ (hcell 6 _ rfl) i2;refine⟨⟨y0,y1,y2,y3,y4,l1,l2⟩,hb,[C D y0,C D y1,C D y2,C D y3,C D y4,v1,v2],rfl,fun j z hz=>?_,v1,v2,rfl,j1,j2⟩;match j,hz with
  |0,hz=>simp at hz;subst hz;exact e0
  |1,hz=>simp at hz;subst hz;exact e1
  |2,hz=>simp at hz;subst hz;exact e2
  |3,hz=>simp at hz;subst hz;exact e3
  |4,hz=>simp at hz;subst hz;exact e4
  |5,hz=>simp at hz;subst hz;exact e5
  |6,hz=>simp at hz;subst hz;exact e6
  |j+7,hz=>simp at hz
 refine⟨l',⟨some ⟨g,off,none⟩,c,by rw[hl',hn],by omega,h2,fun k x hx=>?_⟩,hl'⟩;obtain⟨hg,cs,q1,q2,q3⟩:=hP k x hx;exact⟨g,off,cs,rfl,hg,q1,q2,q3⟩
theorem fL{g i:Nat}{cs:Array Value}{t:TypeId}(h:Bk w g cs t)(h':Bk w' g cs t):w'.cell? ⟨g,i,none⟩=w.cell? ⟨g,i,none⟩:=by have h1:w.heap[g]?=_:=h;have h2:w'.heap[g]?=_:=h';unfold World.cell?;simp only[h1,h2]
theorem dd.refl(p:Nat)(w:World):dd p w w:=fun _ x _ hc=>⟨x,fun h=>h,hc⟩
def fI(pt:Nat)(w5 wx:World)(v:Value):Prop:=∃l':List oy,XT pt w5 wx∧bt wx pt∧fF pt wx v l'∧l'.length≤1000
section
variable {pt g n c:Nat} {w5 w':World} {l:List oy}
theorem cd{b i:Nat}(hp:pt<w5.heap.size)(hx:XT pt w5 w')(ht:bt w' pt)(hs:fF pt w' (E (some ⟨g,0,none⟩) n c) l)(hl:l.length≤1000)(hb:w5.heap.size≤b)(hc:w'.cell? ⟨b,i,none⟩=some (C D y))(hz:aC z) :
  fI pt w5 (w'.setCell ⟨b,i,none⟩ (C D z)) (E (some ⟨g,0,none⟩) n c):=by
 obtain⟨l',h1,h2⟩:=hs.kk (lP hc hz) (fun i B m d h=>⟨_,ne hc h,.inl rfl⟩);exact⟨l',hx.setNew (a:=⟨b,i,none⟩) hb _,ht.setNew (a:=⟨b,i,none⟩) (by simp only;omega) _,h1,by omega⟩
theorem gV{w1:World}{i m d:Nat}{B:Option Addr}{u:Value}(hp:pt<w5.heap.size)(hx:XT pt w5 w1)(ht:bt w1 pt)(hs:fF pt w' (E (some ⟨g,0,none⟩) n c) l)(hl:l.length≤1000)(hg:w5.heap.size≤g)(hk:dd pt w' w1)(hr:∀i B m d,w'.cell? ⟨g,i,none⟩=some (E B m d)→w1.cell? ⟨g,i,none⟩=some (E B m d))(hc:w1.cell? ⟨g,i,none⟩=some (E B m d))(hu:∀w2,dd pt w1 w2→∃l1,ao pt w2 u l1) :
  fI pt w5 (w1.setCell ⟨g,i,none⟩ u) (E (some ⟨g,0,none⟩) n c):=by
 have hk2:dd pt w1 (w1.setCell ⟨g,i,none⟩ u):=nd hc;obtain⟨l',h1,h2⟩:=hs.kk (hk.trans hk2) (fun j B' m' d' h=>by
  by_cases e:j=i
  ·subst e;exact⟨u,World.cell?_setCell_same _ _ _ hc,.inr (hu _ hk2)⟩
  ·exact⟨_,by rw[World.cell?_setCell_other _ _ _ _ (by simp<;>omega)];exact hr _ _ _ _ h,.inl rfl⟩)
 exact⟨l',hx.setNew (a:=⟨g,i,none⟩) hg _,ht.setNew (a:=⟨g,i,none⟩) (by simp only;omega) _,h1,by omega⟩
end
theorem d8.xt{p base:Nat}{w w':World}{v:Value}{ys:List (oy×Value×Value)}(h:d8 base w v ys)(hx:XT p w w')(hp:p<base):d8 base w' v ys :=
 ⟨aL.xt h.own hx hp,fun y hy=>⟨(h.el y hy).1.xt hx hp,(h.el y hy).2.xt hx hp⟩⟩
theorem d8.blk{A:Option Addr}{ys:List (oy×Value×Value)}(h:d8 base w (E A n c) ys)(hn:0<n):∃g cur,A=some ⟨g,0,none⟩∧base≤g∧Bk w g cur 54:=by
 rcases h.own.own.2 with ⟨e0,_⟩|⟨g,cap,cur,e0,hb,hh,_⟩
 ·injection e0 with _ e2 _;omega
 ·injection e0 with e1 e2 e3;exact⟨g,cur,e1,hb,hh⟩
theorem av.blk{A:Option Addr}{l:List Int}(h:av w base (E A n c) l)(hn:0<n):∃g cur,A=some ⟨g,0,none⟩∧base≤g∧Bk w g cur 3∧cur.size=c∧n≤c:=by
 rcases h.1.2 with ⟨e0,_⟩|⟨g,cap,cur,e0,hb,hh,hnc,_,hs,_⟩
 ·injection e0 with _ e2 _;omega
 ·injection e0 with e1 e2 e3;exact⟨g,cur,e1,hb,hh,by rw[e3];simpa using hs,by omega⟩
theorem lH(s:aZ)(i:en)(d f ld:Int):(kG s i d f ld).length≤60∧∀c∈kG s i d f ld,0<c.pgs.length:=by
 unfold kG;split
 ·rename_i h
  have hok:=eV.1 (eQ.1 h.1).chk;refine⟨?_,fun c hc=>?_⟩
  ·unfold Do;rw[zM];have h1:=xC (bM s i) s.xp;have h2:=hok.len;omega
  ·unfold Do at hc;obtain⟨x,hx,rfl⟩:=zJ.1 hc;have hx':=(xY.1 hx).1;have hb:=fw hok hx';obtain⟨pq,bk,hpq,hbk,hbb,-⟩:=gQ hok hb.2.2.1 hb.2.2.2.1;have hbn:=kJ hbb;unfold sc;simp only;rw[vE hbk];unfold ee;simp;omega
 ·exact⟨by simp,fun c hc=>by simp at hc⟩
theorem k6{P:Program}(w:World)(t ty:TypeId)(i:TypeInfo)(z:Value)(ht:P.underlying t=some (.slice 3))(hi:P.info? 3=some i)(hz:i.zero=some z)(hsize:i.size=1)(hby:i.bytes=8)(hzs:z.cells.size=1){gz:Nat}{A:Option Addr}{l:List Int}(h:av w base (E A n c) l)(hn:0<n)(hn2:n≤1000000)(hl:l.length=n)(hp:p<base)(hbs:base≤w.heap.size)(hB:Bk w gz #[C D 0] 3)(w5:World)(hx5:XT p w5 w)(hb5:w5.heap.size≤base)(htp:bt w p) :
  ∃v' w',(Builtin.append_ #[t,t] ty #[E A n c,E (some ⟨gz,0,none⟩) 1 1]).run P w=.ok v' w'∧dd p w w'∧XT p w5 w'∧bt w' p∧(∃B m d,v'=E B m d)∧(∀w2,dd p w' w2→∃l1,ao p w2 v' l1) ∧
   ∀(g:Nat) (cur:Array Value) (ty:TypeId),Bk w g cur ty→ty≠3→Bk w' g cur ty:=by
 have hnews:∀j u,([C D 0]:List Value)[j]?=some u→w.cell? ((⟨gz,0,none⟩:Addr).add j)=some u:=World.news_of_block hB;obtain⟨gp,cur,hA,hbp,hbk,hcs,hnc⟩:=h.blk hn;have hcap:c≤9223372036854775807:=by obtain⟨_,_,_,e,_,h,_⟩:=(h.isI hp).open_;cases e;exact h
 by_cases hroom:n+1≤c
 ·subst hA;have hcell:(w.cell? ⟨gp,0+n*i.size+0,none⟩).isSome=true:=by
   rw[hsize,show 0+n*1+0=n by omega];rw[hbk.cell (i:=n) (Array.getElem?_eq_getElem (by omega))];rfl
  have hr:=run_append_room_cells (P:=P) w t ty 3 i ht hi gp 0 n c ⟨gz,0,none⟩ 1 1 [C D 0] (by rw[hsize];rfl) hnews (by simp[Value.oneCell']) hroom
   (fun j hj=>by
    obtain rfl:j=0:=by simp at hj;exact hj
    exact hcell)
   (fun j hj=>hbk.froz _)
  have hw:w.setCells gp (0+n*i.size) [C D 0]=w.setCell ⟨gp,n,none⟩ (C D 0):=by rw[hsize,show 0+n*1=n by omega];rfl
  rw[hw]at hr;have hi64:aC (0:Int):=⟨by omega,by omega⟩
  have hk:dd p w (w.setCell ⟨gp,n,none⟩ (C D 0)):=fun a x ha hx=>by
   by_cases e:(⟨gp,n,none⟩:Addr)=a
   ·subst e;exact⟨0,fun _=>hi64,World.cell?_setCell_same _ _ _ hx⟩
   ·exact⟨x,fun h=>h,by rw[World.cell?_setCell_other _ _ _ _ e];exact hx⟩
  have hnew:w.setCell ⟨gp,n,none⟩ (C D 0)=w.setCell ⟨gp,n,none⟩ (C D 0):=rfl;have hI0:=h.isI hp;refine⟨_,_,hr,hk,hx5.setNew (a:=⟨gp,n,none⟩) (by simp only;omega) _,htp.setNew (a:=⟨gp,n,none⟩) (by simp only;omega) _,⟨_,_,_,rfl⟩,fun w2 hk2=>?_,fun g cur' ty' hb' hty=>?_⟩
  ·have hI1:ao p (w.setCell ⟨gp,n,none⟩ (C D 0)) (E (some ⟨gp,0,none⟩) (n+1) c) (l++[0]):=by
    obtain⟨A',c',hv,h1,h2,h3,h4,h5⟩:=hI0;injection hv with hv1 hv2 hv3;subst hv1;subst hv3;refine⟨some ⟨gp,0,none⟩,c,by simp[hl],by simp;omega,h2,by simp;omega,fun x hx=>?_,fun k x hx=>?_⟩
    ·rcases zC.1 hx with hx|hx
     ·exact h4 x hx
     ·obtain rfl:x=0:=by simpa using hx
      exact hi64
    ·have hk:=(zY.1 hx).1;simp at hk;rcases zV k l.length with hk2|hk2
     ·rw[zH hk2]at hx;obtain⟨b,off,e,hb,hc⟩:=h5 k x hx;cases e;refine⟨gp,0,rfl,hb,?_⟩;rw[World.cell?_setCell_other _ _ _ _ (by simp<;>omega)];exact hc
     ·obtain rfl:k=l.length:=by omega
      rw[yT (by omega)]at hx;simp at hx;subst hx;refine⟨gp,0,rfl,by omega,?_⟩;rw[hl,yV];have hcc:=hbk.cell (i:=n) (Array.getElem?_eq_getElem (by omega));exact World.cell?_setCell_same _ _ _ hcc
   obtain⟨l1,hl1,-⟩:=hI1.keepInt hk2;exact⟨l1,hl1⟩
  ·exact hb'.far (a:=⟨gp,n,none⟩) (fun e=>by simp only at e;subst e;exact hty (Gv hb' hbk)) _
 ·obtain rfl:n=c:=by omega
  have hI0:=h.isI hp;have hfl:(l.map (Value.int .i64)).length=n*1:=by simp[hl]
  obtain⟨v',w',hr,hx,hd⟩:=tV (P:=P) w t ty 3 i z 1 8 ht hi hz hsize hby hzs A n (l.map (Value.int .i64)) hfl (.inr (by subst hA;refine⟨_,rfl,fun j u hu=>?_⟩;simp only[zL,yI]at hu;obtain⟨x,hx,rfl⟩:=hu;obtain⟨A',c',hv,-,-,-,-,h5⟩:=hI0;injection hv with hv1 _ _;obtain⟨b,off,e,hb,hc⟩:=h5 j x hx;rw[←hv1]at e;cases e;rw[ik];exact hc)) (some ⟨gz,0,none⟩) 1 1 [C D 0] rfl (.inr ⟨_,rfl,hnews⟩) (by unfold maxLen;omega) (by omega)
  refine⟨v',w',hr,dd.xt hx.xt,hx5.trans hx.xt,htp.ext hx,?_⟩;rcases hd with ⟨h0,_⟩|⟨c',rfl,hown⟩
  ·omega
  refine⟨⟨_,_,_,rfl⟩,fun w2 hk2=>?_,fun g cur' ty' hb' _=>hb'.ext hx⟩;have hI1:ao p w' (E (some ⟨w.heap.size,0,none⟩) (n+1) c') (l++[0]):=by
   refine ao.of_own (base:=w.heap.size) (e:=3) (n:=n+1) (by rw[yN];exact hown) (by omega) (fun x hx=>?_) (by simp;omega);rcases zC.1 hx with hx|hx
   ·exact h.2.1 x hx
   ·obtain rfl:x=0:=by simpa using hx
    exact⟨by omega,by omega⟩
  obtain⟨l1,hl1,-⟩:=hI1.keepInt hk2;exact⟨l1,hl1⟩
end Go.Proofs.YtjgfgdcaocbfhaaGreat

