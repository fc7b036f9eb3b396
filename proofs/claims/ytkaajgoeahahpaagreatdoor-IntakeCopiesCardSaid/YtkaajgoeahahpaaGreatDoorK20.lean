import Derived.Test.YtkaajgoeahahpaaGreatDoorK19
set_option linter.all false
set_option maxRecDepth 100000
set_option maxHeartbeats 0
namespace Go.Proofs.YtkaajgoeahahpaaGreatDoor
open Go.Value renaming int→B,slice→D
open Go.IntKind renaming i64→C
open Go.RowKit _root_.Go.Proofs.Tryz
variable {p:Nat}
theorem qx{w:World}{b off:Nat}{cs:List Value}{x:fv}(hc:∀j u,cs[j]?=some u->w.cell? ⟨b,off+j,none⟩=some u)(h:lR w cs x) :
  w.cell? ⟨b,off,none⟩=some (B C x.cand)/\w.cell? ⟨b,off+1,none⟩=some (B C x.cen)/\w.cell? ⟨b,off+2,none⟩=some (B C x.var):=by
 obtain⟨rfl,_⟩:=h;exact⟨hc 0 _ rfl,hc 1 _ rfl,hc 2 _ rfl⟩
theorem my(p:Nat)(v:Value)(s:dl)(w:World)(h:bz w p)(hs:aR p w v s)(hw:ma s) :
  Calls prog 55 #[.pointer (some ⟨p,0,none⟩),v] w (iN p w fun v _=>∃l:cJ,v=l.val/\l.wf):=by
 obtain⟨vP,vB,vX,rfl,_,_,hX,hnum⟩:=hs;obtain⟨A,n,c,rfl,hnc,hc,hnn,HL⟩:=hX.open_;obtain⟨hn1,hn2⟩:=hnum;have hlt:=h.lt;have hn5:n<=5:=by have:=HL.out;have:=hw.xpn;omega
 have HW:Bx (∀x∈s.xp,-1<=x.cand/\x.cand<=10000/\0<=x.cen/\x.cen<=100∧-1<=x.var/\x.var<=2):=⟨hw.xp⟩
 obtain⟨w1,hw1⟩:=nm ((((w.alloc (.cells #[B C s.num,vP,vB,D A n c] 27)).alloc (.cells #[B C 0,B C 0,B C 0,B C 0] 45)).alloc (.cells #[B C s.num,B C 0,B C 0,B C 0] 45)):World);have HF:Bx (Fr p w w1 [(w.heap.size,#[B C s.num,vP,vB,D A n c],27),(w.heap.size+1,#[B C 0,B C 0,B C 0,B C 0],45),(w.heap.size+2,#[B C s.num,B C 0,B C 0,B C 0],45)]) :=
  ⟨by rw[hw1];exact (((Fr.start h).push _ _ rfl).push _ _ (by simp)).push _ _ (by simp)⟩
 have HX:Bx (jh p w1 (D A n c) s.xp):=⟨by rw[hw1];exact hX.ext (lR.stab p) ((((zE _).alloc _).alloc _).alloc _)⟩
 clear h hX hw;go_enter func55,ntmps55
 go_upto_if 13 with (fail)
 rw[<-hw1];clear hw1;go_cut [] (fun wx=>∃a b c' d:Int,aU a/\aU b/\aU c'/\aU d/\Bx (Fr p w wx [(w.heap.size,#[B C s.num,vP,vB,D A n c],27),(w.heap.size+1,#[B C 0,B C 0,B C 0,B C 0],45),(w.heap.size+2,#[B C a,B C b,B C c',B C d],45)]))
 case first =>
  by_cases h0:0<n
  ·obtain⟨b,off,cs0,x0,rfl,-⟩:=HX.out.at_ h0;go_upto_region 3 with (fail)
   go_cut [6] (fun s6 wx=>∃(g:Nat) (x:fv),s6=.pointer (some ⟨g,0,none⟩)/\Bx (x.wf/\Fr p w wx [(w.heap.size,#[B C s.num,vP,vB,D (some ⟨b,off,none⟩) n c],27),(w.heap.size+1,#[B C 0,B C 0,B C 0,B C 0],45),(w.heap.size+2,#[B C s.num,B C 0,B C 0,B C 0],45),(g,#[B C x.cand,B C x.cen,B C x.var],90)]))
   case first =>
    have g3:w1.drew.cell? ⟨w.heap.size,3,none⟩=some (D (some ⟨b,off,none⟩) n c):=(HF.out.drew.at_ 0 rfl).c 3 rfl;refine zR 10 (fun w'=>w'.cell? ⟨w.heap.size,3,none⟩=some (D (some ⟨b,off,none⟩) n c)) ?_;refine zS 6 [(0,14),(1,15),(2,16),(3,17),(4,18),(5,19)] g3 ?_;iterate 6 refine zT ?_
    refine zN (an 6 9 (by kernel_rfl) rfl rfl (fun K hK=>?_) (fun K hK=>?_))
    ·go_simp;refine (am p n _ HF.out.drew.tp (by omega)).mono ?_;rintro e w2 ⟨v2,rfl,⟨r,rfl,hr1,hr2⟩,HT2,HX2⟩;obtain⟨r,rfl⟩:=zG hr1;have hrn:r<n:=by omega
     have HF2:Bx (Fr p w w2 [(w.heap.size,#[B C s.num,vP,vB,D (some ⟨b,off,none⟩) n c],27),(w.heap.size+1,#[B C 0,B C 0,B C 0,B C 0],45),(w.heap.size+2,#[B C s.num,B C 0,B C 0,B C 0],45)]):=⟨HF.out.drew.step HX2 HT2⟩
     have HX2':Bx (jh p w2 (D (some ⟨b,off,none⟩) n c) s.xp):=⟨(HX.out.ext (lR.stab p) ((zE _).drew)).xt (lR.stab p) HX2⟩
     have g3':w2.cell? ⟨w.heap.size,3,none⟩=some (D (some ⟨b,off,none⟩) n c):=(HF2.out.at_ 0 rfl).c 3 rfl;clear HT2 HX2;obtain⟨cs,x,hcl,hcc,hRx,hxx⟩:=HX2'.out.cell_ hrn;obtain⟨x0',x1',x2'⟩:=qx hcc hRx;have hxw:Bx x.wf:=⟨hRx.2⟩
     clear hcc hRx hcl hxx;refine hK.out _ _ (fun _=>(g3')) ?_;clear hK K;try simp only[kA]
     refine kt (S':=(fun w'=>w'.cell? ⟨w.heap.size,3,none⟩=some (D (some ⟨b,off,none⟩) n c)/\w'.cell? ⟨b,off+r*3,none⟩=some (B C x.cand)/\w'.cell? ⟨b,off+r*3+1,none⟩=some (B C x.cen)/\w'.cell? ⟨b,off+r*3+2,none⟩=some (B C x.var))) (fun _ h=>h.1) _ _ _ _ ?_;have g4:=yJ g3' (yJ x0' (yJ x1' x2'));refine zS 2 [(7,21),(8,22)] g4 ?_;iterate 2 refine zT ?_
     refine zN (zO 9 (fun K hK=>?_));go_simp;refine hK.out _ _ (fun _=>(⟨((zE w2).alloc _).cell g3',((zE w2).alloc _).cell x0',((zE w2).alloc _).cell x1',((zE w2).alloc _).cell x2'⟩)) ?_;clear hK K;try simp only[kA]
     refine zO 10 (fun K hK=>?_);go_simp;refine hK.out _ _ (fun h=>absurd rfl h) ?_;clear hK K;refine zD ?_;go_wp2_with fail;go_meet
     exact⟨w2.heap.size,x,rfl,⟨hxw.out,HF2.out.new _ _⟩⟩
    ·go_simp;obtain⟨w3,hw3⟩:=nm ((w1.alloc (.cells #[B C 0,B C 0,B C 0] 90)).drew:World);have HF3:Bx (Fr p w w3 [(w.heap.size,#[B C s.num,vP,vB,D (some ⟨b,off,none⟩) n c],27),(w.heap.size+1,#[B C 0,B C 0,B C 0,B C 0],45),(w.heap.size+2,#[B C s.num,B C 0,B C 0,B C 0],45),(w1.heap.size,#[B C 0,B C 0,B C 0],90)]):=⟨by rw[hw3];exact (HF.out.new _ _).drew⟩
     have HX3:Bx (jh p w3 (D (some ⟨b,off,none⟩) n c) s.xp):=⟨by rw[hw3];exact HX.out.ext (lR.stab p) (((zE _).alloc _).drew)⟩
     have g33:w3.cell? ⟨w.heap.size,3,none⟩=some (D (some ⟨b,off,none⟩) n c):=(HF3.out.at_ 0 rfl).c 3 rfl;rw[<-hw3];clear hw3;refine hK.out _ _ (fun _=>(g33)) ?_;clear hK K;try simp only[kA]
     refine zO 6 (fun K hK=>?_);go_simp;refine (am p n _ HF3.out.tp (by omega)).mono ?_;rintro e w2 ⟨v2,rfl,⟨r,rfl,hr1,hr2⟩,HT2,HX2⟩;obtain⟨r,rfl⟩:=zG hr1;have hrn:r<n:=by omega
     have HF2:=bx (HF3.out.step HX2 HT2);have HX2':Bx (jh p w2 (D (some ⟨b,off,none⟩) n c) s.xp):=⟨HX3.out.xt (lR.stab p) HX2⟩
     have g3':w2.cell? ⟨w.heap.size,3,none⟩=some (D (some ⟨b,off,none⟩) n c):=(HF2.out.at_ 0 rfl).c 3 rfl;clear HT2 HX2;obtain⟨cs,x,hcl,hcc,hRx,hxx⟩:=HX2'.out.cell_ hrn;obtain⟨x0',x1',x2'⟩:=qx hcc hRx;have hxw:Bx x.wf:=⟨hRx.2⟩
     clear hcc hRx hcl hxx;refine hK.out _ _ (fun _=>(g3')) ?_;clear hK K;try simp only[kA]
     refine kt (S':=(fun w'=>w'.cell? ⟨w.heap.size,3,none⟩=some (D (some ⟨b,off,none⟩) n c)/\w'.cell? ⟨b,off+r*3,none⟩=some (B C x.cand)/\w'.cell? ⟨b,off+r*3+1,none⟩=some (B C x.cen)/\w'.cell? ⟨b,off+r*3+2,none⟩=some (B C x.var))) (fun _ h=>h.1) _ _ _ _ ?_;have g4:=yJ g3' (yJ x0' (yJ x1' x2'));refine zS 2 [(7,21),(8,22)] g4 ?_;iterate 2 refine zT ?_
     refine zN ?_;obtain⟨z0,z1,z2⟩:=(HF2.out.at_ 3 rfl).p3 rfl;have f0:=(HF2.out.at_ 3 rfl).froz;have f1:=f0;have f2:=f0;refine zO 10 (fun K hK=>?_);go_simp;refine hK.out _ _ (fun h=>absurd rfl h) ?_;clear hK K;refine zD ?_;go_wp2_with fail;go_meet
     exact⟨w1.heap.size,x,rfl,⟨hxw.out,((HF2.out.set 3 rfl 0 _).set 3 rfl 1 _).set 3 rfl 2 _⟩⟩
   case rest =>
    obtain⟨g,x,rfl,HR⟩:=hcut;clear HF HX;obtain⟨⟨hx1,hx1'⟩,-,hx3,hx3'⟩:=HR.out.1;go_upto_region 4 with (fail)
    have k0:wc.drew.cell? ⟨g,0,none⟩=some (B C x.cand)/\wc.drew.cell? ⟨g,2,none⟩=some (B C x.var):=⟨(HR.out.2.drew.at_ 3 rfl).c 0 rfl,(HR.out.2.drew.at_ 3 rfl).c 2 rfl⟩
    refine zR 11 (fun w'=>w'.cell? ⟨g,0,none⟩=some (B C x.cand)/\w'.cell? ⟨g,2,none⟩=some (B C x.var)) ?_;refine zS 6 [(0,23),(1,24),(2,25),(3,26),(4,27),(6,29)] k0 ?_;iterate 6 refine zT ?_
    refine zN (zO 5 (fun K hK=>?_));go_simp;refine (am p 4 _ HR.out.2.drew.tp (by omega)).mono ?_;rintro e w2 ⟨v2,rfl,⟨r,rfl,hr1,hr2⟩,HT2,HX2⟩;have H1:Bx (Fr p w w2 [(w.heap.size,#[B C s.num,vP,vB,D (some ⟨b,off,none⟩) n c],27),(w.heap.size+1,#[B C 0,B C 0,B C 0,B C 0],45),(w.heap.size+2,#[B C s.num,B C 0,B C 0,B C 0],45),(g,#[B C x.cand,B C x.cen,B C x.var],90)]):=⟨HR.out.2.drew.step HX2 HT2⟩
    clear HT2 HX2 k0;have k1:=yJ ((H1.out.at_ 3 rfl).c 0 rfl) ((H1.out.at_ 3 rfl).c 2 rfl);refine hK.out _ _ (fun _=>(k1)) ?_;clear hK K;try simp only[kA]
    clear k1;have q1:=(H1.out.at_ 2 rfl).c 1 rfl;have f1:=(H1.out.at_ 2 rfl).froz;refine zO 7 (fun K hK=>?_);go_simp;obtain⟨w3,hw3⟩:=nm ((w2.setCell ⟨w.heap.size+2,1,none⟩ (B C x.cand)):World);have H3:Bx (Fr p w w3 [(w.heap.size,#[B C s.num,vP,vB,D (some ⟨b,off,none⟩) n c],27),(w.heap.size+1,#[B C 0,B C 0,B C 0,B C 0],45),(w.heap.size+2,#[B C s.num,B C x.cand,B C 0,B C 0],45),(g,#[B C x.cand,B C x.cen,B C x.var],90)]):=⟨by rw[hw3];exact H1.out.set 2 rfl 1 _⟩
    rw[<-hw3];clear hw3 q1 f1 H1;have k3:=yJ ((H3.out.at_ 3 rfl).c 0 rfl) ((H3.out.at_ 3 rfl).c 2 rfl);refine hK.out _ _ (fun _=>(k3)) ?_;clear hK K;try simp only[kA]
    refine zS 1 [(8,30)] k3 ?_;refine zT ?_;refine zN ?_;clear k3;have q3:=(H3.out.at_ 2 rfl).c 3 rfl;have f3:=(H3.out.at_ 2 rfl).froz;refine zO 9 (fun K hK=>?_);go_simp;obtain⟨w4,hw4⟩:=nm ((w3.setCell ⟨w.heap.size+2,3,none⟩ (B C x.var)):World);have H4:Bx (Fr p w w4 [(w.heap.size,#[B C s.num,vP,vB,D (some ⟨b,off,none⟩) n c],27),(w.heap.size+1,#[B C 0,B C 0,B C 0,B C 0],45),(w.heap.size+2,#[B C s.num,B C x.cand,B C 0,B C x.var],45),(g,#[B C x.cand,B C x.cen,B C x.var],90)]):=⟨by rw[hw4];exact H3.out.set 2 rfl 3 _⟩
    rw[<-hw4];clear hw4 q3 f3 H3;have k4:=yJ ((H4.out.at_ 3 rfl).c 0 rfl) ((H4.out.at_ 3 rfl).c 2 rfl);refine hK.out _ _ (fun _=>(k4)) ?_;clear hK K;try simp only[kA]
    refine zS 1 [(10,31)] k4 ?_;refine zT ?_;refine zN ?_;clear k4;have q2:=(H4.out.at_ 2 rfl).c 2 rfl;have f2:=(H4.out.at_ 2 rfl).froz;refine zO 11 (fun K hK=>?_);go_simp;refine hK.out _ _ (fun h=>absurd rfl h) ?_;clear hK K;refine zD ?_;go_wp2_with fail;go_meet
    exact⟨s.num,x.cand,r,x.var,⟨hn1,hn2⟩,⟨hx1,hx1'⟩,⟨by omega,by omega⟩,⟨hx3,hx3'⟩,⟨(H4.out.set 2 rfl 2 _).take 3⟩⟩
  ·go_wp2_with fail;go_meet
   exact⟨s.num,0,0,0,⟨hn1,hn2⟩,by decide,by decide,by decide,HF⟩
 case rest =>
  obtain⟨a,b,c',d,⟨ha1,ha2⟩,⟨hb1,hb2⟩,⟨hc1,hc2⟩,⟨hd1,hd2⟩,HR⟩:=hcut;clear HF HX;go_wp2_with fail;refine (fe p 10 _ HR.out.tp (by omega) (by omega)).mono ?_;rintro e w5 ⟨v5,rfl,⟨b5,rfl⟩,HT5,HX5⟩;have H5:=bx (HR.out.step HX5 HT5);clear HR HT5 HX5;cases b5 with
  |false =>
   obtain⟨g0,g1,g2,g3⟩:=(H5.out.at_ 2 rfl).p4 rfl;obtain⟨z0,z1,z2,z3⟩:=(H5.out.at_ 1 rfl).p4 rfl;have f0:=(H5.out.at_ 1 rfl).froz;have f1:=f0;have f2:=f0;have f3:=f0;go_wp2_with fail;have H6:=(((H5.out.set 1 rfl 0 (B C a)).set 1 rfl 1 (B C b)).set 1 rfl 2 (B C c')).set 1 rfl 3 (B C d);refine bodyPost_ret (v:=.agg #[B C a,B C b,B C c',B C d]) (by simp[results,results55,go_sem,g0,g1,g2,g3,z0,z1,z2,z3]) rfl ⟨_,rfl,⟨⟨a,b,c',d⟩,rfl,⟨ha1,ha2⟩,⟨hb1,hb2⟩,⟨hc1,hc2⟩,⟨hd1,hd2⟩⟩,H6.tp,H6.xt⟩
  |true =>
   go_wp2_with fail;refine (am p 4 _ H5.out.tp (by omega)).mono ?_;rintro e w6 ⟨v6,rfl,⟨r,rfl,hr1,hr2⟩,HT6,HX6⟩;have H6:=bx (H5.out.step HX6 HT6);clear H5 HT6 HX6;by_cases c0:r=0
   ·subst c0;have k0:((0:Int)==0)=true:=rfl;go_wp2_with fail;refine (az p 0 2 _ H6.out.tp (by omega) (by omega) (by omega) (by omega)).mono ?_;rintro e w7 ⟨v7,rfl,⟨y,rfl,hy1,hy2⟩,HT7,HX7⟩;have H7:=bx (H6.out.step HX7 HT7);clear H6 HT7 HX7;have q0:=(H7.out.at_ 2 rfl).c 0 rfl;have qf:=(H7.out.at_ 2 rfl).froz;have H8:Bx (Fr p w (w7.setCell ⟨w.heap.size+2,0,none⟩ (B C y)) [(w.heap.size,#[B C s.num,vP,vB,D A n c],27),(w.heap.size+1,#[B C 0,B C 0,B C 0,B C 0],45),(w.heap.size+2,#[B C y,B C b,B C c',B C d],45)]):=⟨H7.out.set 2 rfl 0 _⟩
    clear H7;obtain⟨g0,g1,g2,g3⟩:=(H8.out.at_ 2 rfl).p4 rfl;obtain⟨z0,z1,z2,z3⟩:=(H8.out.at_ 1 rfl).p4 rfl;have f0:=(H8.out.at_ 1 rfl).froz;have f1:=f0;have f2:=f0;have f3:=f0;go_wp2_with fail;have H9:=(((H8.out.set 1 rfl 0 (B C y)).set 1 rfl 1 (B C b)).set 1 rfl 2 (B C c')).set 1 rfl 3 (B C d);refine bodyPost_ret (v:=.agg #[B C y,B C b,B C c',B C d]) (by simp[results,results55,go_sem,g0,g1,g2,g3,z0,z1,z2,z3]) rfl ⟨_,rfl,⟨⟨y,b,c',d⟩,rfl,by constructor<;>(simp only;omega),by constructor<;>(simp only;omega),by constructor<;>(simp only;omega),by constructor<;>(simp only;omega)⟩,H9.tp,H9.xt⟩
   have k0:(r==0)=false:=beq_eq_false_iff_ne.2 c0;by_cases c1:r=1
   ·have k1:(r==1)=true:=by rw[c1];rfl
    go_wp2_with fail;refine (am p 6 _ H6.out.tp (by omega)).mono ?_;rintro e w7 ⟨v7,rfl,⟨y,rfl,hy1,hy2⟩,HT7,HX7⟩;have H7:=bx (H6.out.step HX7 HT7);clear H6 HT7 HX7;have q0:=(H7.out.at_ 2 rfl).c 1 rfl;have qf:=(H7.out.at_ 2 rfl).froz;have H8:Bx (Fr p w (w7.setCell ⟨w.heap.size+2,1,none⟩ (B C y)) [(w.heap.size,#[B C s.num,vP,vB,D A n c],27),(w.heap.size+1,#[B C 0,B C 0,B C 0,B C 0],45),(w.heap.size+2,#[B C a,B C y,B C c',B C d],45)]):=⟨H7.out.set 2 rfl 1 _⟩
    clear H7;obtain⟨g0,g1,g2,g3⟩:=(H8.out.at_ 2 rfl).p4 rfl;obtain⟨z0,z1,z2,z3⟩:=(H8.out.at_ 1 rfl).p4 rfl;have f0:=(H8.out.at_ 1 rfl).froz;have f1:=f0;have f2:=f0;have f3:=f0;go_wp2_with fail;have H9:=(((H8.out.set 1 rfl 0 (B C a)).set 1 rfl 1 (B C y)).set 1 rfl 2 (B C c')).set 1 rfl 3 (B C d);refine bodyPost_ret (v:=.agg #[B C a,B C y,B C c',B C d]) (by simp[results,results55,go_sem,g0,g1,g2,g3,z0,z1,z2,z3]) rfl ⟨_,rfl,⟨⟨a,y,c',d⟩,rfl,by constructor<;>(simp only;omega),by constructor<;>(simp only;omega),by constructor<;>(simp only;omega),by constructor<;>(simp only;omega)⟩,H9.tp,H9.xt⟩
   have k1:(r==1)=false:=beq_eq_false_iff_ne.2 c1;by_cases c2:r=2
   ·have k2:(r==2)=true:=by rw[c2];rfl
    go_wp2_with fail;refine (am p 3 _ H6.out.tp (by omega)).mono ?_;rintro e w7 ⟨v7,rfl,⟨y,rfl,hy1,hy2⟩,HT7,HX7⟩;have H7:=bx (H6.out.step HX7 HT7);clear H6 HT7 HX7;have q0:=(H7.out.at_ 2 rfl).c 3 rfl;have qf:=(H7.out.at_ 2 rfl).froz;have H8:Bx (Fr p w (w7.setCell ⟨w.heap.size+2,3,none⟩ (B C y)) [(w.heap.size,#[B C s.num,vP,vB,D A n c],27),(w.heap.size+1,#[B C 0,B C 0,B C 0,B C 0],45),(w.heap.size+2,#[B C a,B C b,B C c',B C y],45)]):=⟨H7.out.set 2 rfl 3 _⟩
    clear H7;obtain⟨g0,g1,g2,g3⟩:=(H8.out.at_ 2 rfl).p4 rfl;obtain⟨z0,z1,z2,z3⟩:=(H8.out.at_ 1 rfl).p4 rfl;have f0:=(H8.out.at_ 1 rfl).froz;have f1:=f0;have f2:=f0;have f3:=f0;go_wp2_with fail;have H9:=(((H8.out.set 1 rfl 0 (B C a)).set 1 rfl 1 (B C b)).set 1 rfl 2 (B C c')).set 1 rfl 3 (B C y);refine bodyPost_ret (v:=.agg #[B C a,B C b,B C c',B C y]) (by simp[results,results55,go_sem,g0,g1,g2,g3,z0,z1,z2,z3]) rfl ⟨_,rfl,⟨⟨a,b,c',y⟩,rfl,by constructor<;>(simp only;omega),by constructor<;>(simp only;omega),by constructor<;>(simp only;omega),by constructor<;>(simp only;omega)⟩,H9.tp,H9.xt⟩
   have k2:(r==2)=false:=beq_eq_false_iff_ne.2 c2;go_wp2_with fail;refine (az p 3 9 _ H6.out.tp (by omega) (by omega) (by omega) (by omega)).mono ?_;rintro e w7 ⟨v7,rfl,⟨y,rfl,hy1,hy2⟩,HT7,HX7⟩;have H7:=bx (H6.out.step HX7 HT7);clear H6 HT7 HX7;have q0:=(H7.out.at_ 2 rfl).c 2 rfl;have qf:=(H7.out.at_ 2 rfl).froz;have H8:Bx (Fr p w (w7.setCell ⟨w.heap.size+2,2,none⟩ (B C y)) [(w.heap.size,#[B C s.num,vP,vB,D A n c],27),(w.heap.size+1,#[B C 0,B C 0,B C 0,B C 0],45),(w.heap.size+2,#[B C a,B C b,B C y,B C d],45)]):=⟨H7.out.set 2 rfl 2 _⟩
   clear H7;obtain⟨g0,g1,g2,g3⟩:=(H8.out.at_ 2 rfl).p4 rfl;obtain⟨z0,z1,z2,z3⟩:=(H8.out.at_ 1 rfl).p4 rfl;have f0:=(H8.out.at_ 1 rfl).froz;have f1:=f0;have f2:=f0;have f3:=f0;go_wp2_with fail;have H9:=(((H8.out.set 1 rfl 0 (B C a)).set 1 rfl 1 (B C b)).set 1 rfl 2 (B C y)).set 1 rfl 3 (B C d);refine bodyPost_ret (v:=.agg #[B C a,B C b,B C y,B C d]) (by simp[results,results55,go_sem,g0,g1,g2,g3,z0,z1,z2,z3]) rfl ⟨_,rfl,⟨⟨a,b,y,d⟩,rfl,by constructor<;>(simp only;omega),by constructor<;>(simp only;omega),by constructor<;>(simp only;omega),by constructor<;>(simp only;omega)⟩,H9.tp,H9.xt⟩
theorem kY(code var:Int)(v vb:Value)(ps:List av)(pgs:List (List Int))(w:World)(h:oa p w v ps)(hb:oc p w vb pgs) :
  Calls prog 44 #[.agg #[B C code,B C var,v],.agg #[vb]] w fun e w'=>e=.returned (.bool (jH code var ps pgs))/\ab w w':=by
 obtain⟨A,n,c,rfl,hnc,hc,hnn,HL⟩:=h.open_;obtain⟨Ab,m,cb,rfl,hmc,hcb,hmm,HM⟩:=hb.open_;have H:=zZ h;have HB:=zZ hb;clear h hb;go_enter func44,ntmps44
 go_wp2_with fail;refine (kP _ _ _ ps _ ((H.out.ext (bC.stab p) ((zE _).alloc _)).ext (bC.stab p) ((zE _).alloc _))).mono ?_;rintro e w1 ⟨rfl,hx1⟩;have HE1:=zZ (ab.trans (((zE w).alloc _).alloc _) hx1);have d0:w1.cell? ⟨w.heap.size+1,0,none⟩=some (D Ab m cb):=hx1.cell (by simp);have b2:w1.cell? ⟨w.heap.size,2,none⟩=some (D A n c):=hx1.cell (by simp);have D0:=zZ d0;have B2:=zZ b2;have HI1:=zZ (H.out.ext (bC.stab p) HE1.out);have HP1:=zZ (HB.out.ext (RI.stab p) HE1.out);clear hx1;cases hv:fD code var ps with
 |false =>
  have HF:=zZ (dE (fun hk=>by have:=hk.1;rw[hv]at this;cases this):jH code var ps pgs=false);clear hv;go_wp2_with fail;go_ret
  exact⟨aa HF.out.symm,HE1.out⟩
 |true =>
 have HV:=zZ hv;have hvp:=mD hv;have hn1:1<=n:=by have:=HL.out;omega
 have hn24:n<=24:=by have:=HL.out;omega
 clear hv hvp;by_cases hm:m<=12/\m%4=0;case neg =>
  have HF:=zZ (dE (fun hk=>hm (by have h1:=hk.2.1;have h2:=hk.2.2.1;rw[HM.out]at h1 h2;exact⟨h1,h2⟩)):jH code var ps pgs=false);by_cases h12:12<m
  ·clear hm;go_wp2_with fail;go_ret
   exact⟨aa HF.out.symm,HE1.out⟩
  ·have e4:((m:Int)%4 != 0)=true:=by simp;omega
   clear hm;go_wp2_with fail;go_ret
   exact⟨aa HF.out.symm,HE1.out⟩
 case pos =>
 obtain⟨hm12,hm4⟩:=hm;have e4:((m:Int)%4 != 0)=false:=by simp;omega
 have HM4:=zZ hm4;clear hm4;go_wp2_with fail;clear d0 b2 e4;go_loopw [5,30] (fun s5 s30 wr=>∃(i nx:Nat),i<=m/\nx<=n/\s30=B C i/\s5=B C nx/\Hid (kZ code var ps pgs i nx/\(0<i->∀l,pgs[0]?=some l->l=[])/\ab w1 wr)) (fun _ i _=>m-(intOf i).toNat)
 case atStart=>exact⟨0,0,by omega,by omega,rfl,rfl,kZ.start _ _ _ _,fun h=>absurd h (by omega),zE _⟩
 case round =>
  obtain⟨wo,rfl⟩:=nm (wr:World);obtain⟨i,nx,hi,hnx,rfl,rfl,HR⟩:=hrel;by_cases hlt:i<m
  ·obtain⟨bb,ob,cs0,l0,rfl,_⟩:=HB.out.at_ hlt;obtain⟨u,l,hcu,hIu,HX⟩:=(HP1.out.ext (RI.stab p) HR.out.2.2).page hlt;obtain⟨Au,nu,cu,rfl,hnu,hcu',hnnu,HLU⟩:=hIu.open_;have HIU:=zZ hIu;clear hIu;by_cases hi0:i=0/\0<nu
   ·obtain⟨hi00,hnu0⟩:=hi0;have HF:=zZ (dE (fun hk=>by have:=hk.2.2.2.1 l (by rw[<-hi00];exact HX.out);have h2:=HLU.out;rw[this]at h2;simp at h2;omega):jH code var ps pgs=false);have e0:((i:Int)==0)=true:=by simp[hi00]
    clear hi00;go_wp2_with fail;go_ret
    exact⟨aa HF.out.symm,HE1.out.trans HR.out.2.2⟩
   ·have H0:Hid (0<i+1->∀l,pgs[0]?=some l->l=[]):=fun _ l' hl'=>by
     by_cases e:i=0
     ·subst e;rw[HX.out]at hl';have:=xF hl';subst this;have:=HLU.out;exact xZ (by omega)
     ·exact HR.out.2.1 (by omega) l' hl'
    have hor:(∃_h:((i:Int)==0)=true,nu<1)\/(∃_h:((i:Int)==0)=false,nu<10000000000000000000):=by
     by_cases e:i=0
     ·exact .inl ⟨by simp[e],by omega⟩
     ·exact .inr ⟨by simp;omega,by omega⟩
    clear hi0;go_upto_region 7 with (fail)
    go_cut [41] (fun s41 wx=>s41=.bool false/\wo=wx)
    case first =>
     rcases hor with ⟨e0,hnu1⟩|⟨e0,hnu1⟩
     ·go_wp2_with fail;go_meet
      exact⟨by simp;omega,rfl⟩
     ·go_wp2_with fail;go_meet
      exact⟨rfl,rfl⟩
    case rest =>
    obtain⟨rfl,hwx⟩:=hcut;subst hwx;clear hor;go_wp2_with fail;go_loopw [5,8,44] (fun s5 s8 s44 wr=>∃(k:Nat) (ln:Int),k<=nu/\nx+k<=n/\0<=ln/\ln<=30*k/\s5=B C ((nx:Int)+k)/\s8=B C ln/\s44=B C k/\Hid (ln=nA (ps.map db) nx k/\nf (ps.map db) nx l k/\ab wo wr)) (fun _ _ i _=>nu-(intOf i).toNat)
    case atStart=>exact⟨0,0,by omega,by omega,by omega,by omega,by simp,rfl,rfl,(oN _ _).symm,rN (by have:=HL.out;simp;omega) _,zE _⟩
    case round =>
     obtain⟨k,ln,hk,hnk,hln0,hln1,rfl,rfl,rfl,HQ⟩:=hrel;have HEW:=zZ (HR.out.2.2.trans HQ.out.2.2);have b2:=HEW.out.cell B2.out;by_cases hklt:k<nu
     ·obtain⟨bu,ou,y,rfl,hcy,HY,hy1,hy2⟩:=(HIU.out.ext HQ.out.2.2).at_ hklt;by_cases hg:y=(nx:Int)+k/\nx+k<n
      ·obtain⟨hye,hnkn⟩:=hg;subst hye;obtain⟨b,off,cs1,q1,rfl,_⟩:=H.out.at_ hnkn;obtain⟨q,c0,c1,c2,c3,c4,c5,hw,HXq⟩:=(HI1.out.ext (bC.stab p) HEW.out).part hnkn;have hnb:=qp q;go_wp2_with fail;refine (Gk q _).mono ?_;rintro e w2 ⟨rfl,hx2⟩;clear c0 c1 c2 c3 c4 c5 b2 hcy;generalize hxq:db q=x at *
       have HXN:Hid ((ps.map db)[nx+k]?=some x):=by have:=nY HXq.out;rw[hxq]at this;exact this
       clear hxq;go_wp2_with fail;go_roundw
       case rel=>exact⟨k+1,ln+x,by omega,by omega,by omega,by omega,by go_num,rfl,by go_num,by rw[lx HXN.out,<-HQ.out.1],qK HQ.out.2.1 HY.out (by simp) (by have:=HL.out;simp;omega),HQ.out.2.2.trans hx2⟩
       case measure=>simp[intOf];omega
      ·have HF:=zZ (dE (HR.out.1.bad HX.out (D7 HY.out (by have:=HL.out;simp;omega))):jH code var ps pgs=false);by_cases hye:y=(nx:Int)+k
       ·subst hye;have hnkn:n<=nx+k:=by omega
        clear hg;go_wp2_with fail;go_ret
        exact⟨aa HF.out.symm,HE1.out.trans HEW.out⟩
       ·have e5:(y != (nx:Int)+k)=true:=by simp;exact hye
        clear hg hye;go_wp2_with fail;go_ret
        exact⟨aa HF.out.symm,HE1.out.trans HEW.out⟩
     ·obtain rfl:k=nu:=by omega
      by_cases hln:ln<=30
      ·have HOK:Hid (oW (ps.map db) nx l):=⟨by rw[HLU.out];exact HQ.out.2.1,by rw[HLU.out,<-HQ.out.1];exact hln⟩
       go_wp2_with fail;go_roundw
       case rel=>exact⟨i+1,nx+k,by omega,by omega,by go_num,by go_num,by have:=HR.out.1.next HX.out HOK.out;rw[HLU.out]at this;exact this,H0.out,HEW.out⟩
       case measure=>simp[intOf];omega
      ·have HF:=zZ (dE (HR.out.1.bad HX.out (fun hk=>hln (by have:=hk.2;rw[HLU.out,<-HQ.out.1]at this;exact this))):jH code var ps pgs=false);go_wp2_with fail;go_ret
       exact⟨aa HF.out.symm,HE1.out.trans HEW.out⟩
  ·obtain rfl:i=m:=by omega
   have b2:=HR.out.2.2.cell B2.out;have HFIN:Hid (decide (nx=n)=jH code var ps pgs):=by
    show decide (nx=n)=jH code var ps pgs
    have hl:=HR.out.1.fin HM.out;rw[HL.out]at hl;by_cases e:nx=n
    ·rw[qh ⟨HV.out,by rw[HM.out];exact hm12,by rw[HM.out];exact HM4.out,fun l hl'=>HR.out.2.1 (by have:=(zY.1 hl').1;rw[HM.out]at this;omega) l hl',hl.2 e⟩];simp[e]
    ·rw[dE (fun hk=>e (hl.1 hk.2.2.2.2))];simp[e]
   go_wp2_with fail;go_ret
   exact⟨aa (by rw[<-HFIN.out,yE];simp;omega),HE1.out.trans HR.out.2.2⟩
theorem eG(code var:Int)(v vb:Value)(ps:List av)(pgs:List (List Int))(w:World)(h:oa p w v ps)(hb:oc p w vb pgs) :
  Calls prog 52 #[.agg #[B C code,B C var,v],.agg #[vb]] w fun e w'=>e=.returned (.bool (jH code var ps pgs))/\ab w w':=by
 obtain⟨A,n,c,rfl,hnc,hc,hnn,HL⟩:=h.open_;obtain⟨Ab,m,cb,rfl,hmc,hcb,hmm,HM⟩:=hb.open_;have H:=zZ h;have HB:=zZ hb;clear h hb;go_enter func52,ntmps52
 go_wp2_with fail;refine (fc _ _ _ ps _ ((H.out.ext (bC.stab p) ((zE _).alloc _)).ext (bC.stab p) ((zE _).alloc _))).mono ?_;rintro e w1 ⟨rfl,hx1⟩;have HE1:=zZ (ab.trans (((zE w).alloc _).alloc _) hx1);have d0:w1.cell? ⟨w.heap.size+1,0,none⟩=some (D Ab m cb):=hx1.cell (by simp);have b2:w1.cell? ⟨w.heap.size,2,none⟩=some (D A n c):=hx1.cell (by simp);have D0:=zZ d0;have B2:=zZ b2;have HI1:=zZ (H.out.ext (bC.stab p) HE1.out);have HP1:=zZ (HB.out.ext (RI.stab p) HE1.out);clear hx1;cases hv:fD code var ps with
 |false =>
  have HF:=zZ (dE (fun hk=>by have:=hk.1;rw[hv]at this;cases this):jH code var ps pgs=false);clear hv;go_wp2_with fail;go_ret
  exact⟨aa HF.out.symm,HE1.out⟩
 |true =>
 have HV:=zZ hv;have hvp:=mD hv;have hn1:1<=n:=by have:=HL.out;omega
 have hn24:n<=24:=by have:=HL.out;omega
 clear hv hvp;by_cases hm0:m<1
 ·have HF:=zZ (dE (fun hk=>by
   have h5:=hk.2.2.2.2;have:pgs=[]:=xZ (by have:=HM.out;omega);rw[this]at h5;simp[eh]at h5;have:=HL.out;omega):jH code var ps pgs=false)
  go_wp2_with fail;go_ret
  exact⟨aa HF.out.symm,HE1.out⟩
 by_cases hm:m<=12/\m%4=0;case neg =>
  have HF:=zZ (dE (fun hk=>hm (by have h1:=hk.2.1;have h2:=hk.2.2.1;rw[HM.out]at h1 h2;exact⟨h1,h2⟩)):jH code var ps pgs=false);by_cases h12:12<m
  ·clear hm;go_wp2_with fail;go_ret
   exact⟨aa HF.out.symm,HE1.out⟩
  ·have e4:((m:Int)%4 != 0)=true:=by simp;omega
   clear hm;go_wp2_with fail;go_ret
   exact⟨aa HF.out.symm,HE1.out⟩
 case pos =>
 obtain⟨hm12,hm4⟩:=hm;have e4:((m:Int)%4 != 0)=false:=by simp;omega
 have HM4:=zZ hm4;have hm1:0<m:=by omega
 clear hm4 hm0;obtain⟨bb,ob,cs0,l0,rfl,_⟩:=HB.out.at_ hm1;obtain⟨u0,l00,hcu0,hIu0,HX0⟩:=HP1.out.page hm1;obtain⟨Au0,nu0,cu0,rfl,hnu0,hcu0',hnnu0,HLU0⟩:=hIu0.open_;simp only[yQ]at hcu0;by_cases hnz:0<nu0
 ·have HF:=zZ (dE (fun hk=>by have:=hk.2.2.2.1 l00 HX0.out;have h2:=HLU0.out;rw[this]at h2;simp at h2;omega):jH code var ps pgs=false);go_wp2_with fail;go_ret
  exact⟨aa HF.out.symm,HE1.out⟩
 have HZ:Hid (∀l,pgs[0]?=some l->l=[]):=fun l hl=>by rw[HX0.out]at hl;have:=xF hl;subst this;exact xZ (by have:=HLU0.out;omega)
 go_wp2_with fail;clear d0 b2 e4 hcu0 hIu0 hnz;go_loopw [5,6] (fun s5 s30 wr=>∃(i nx:Nat),i<=m/\nx<=n/\s30=B C i/\s5=B C nx/\Hid (kZ code var ps pgs i nx/\ab w1 wr)) (fun _ i _=>m-(intOf i).toNat)
 case atStart=>exact⟨0,0,by omega,by omega,rfl,rfl,kZ.start _ _ _ _,zE _⟩
 case round =>
  obtain⟨wo,rfl⟩:=nm (wr:World);obtain⟨i,nx,hi,hnx,rfl,rfl,HR⟩:=hrel;have d0:=HR.out.2.cell D0.out;by_cases hlt:i<m
  ·obtain⟨u,l,hcu,hIu,HX⟩:=(HP1.out.ext (RI.stab p) HR.out.2).page hlt;obtain⟨Au,nu,cu,rfl,hnu,hcu',hnnu,HLU⟩:=hIu.open_;have HIU:=zZ hIu;have HCU:=zZ hcu;clear hIu;go_wp2_with fail;clear d0 hcu;go_loopw [5,7,8] (fun s5 s8 s44 wr=>∃(k:Nat) (ln:Int),k<=nu/\nx+k<=n/\0<=ln/\ln<=30*k/\s5=B C ((nx:Int)+k)/\s8=B C ln/\s44=B C k/\Hid (ln=nA (ps.map db) nx k/\nf (ps.map db) nx l k/\ab wo wr)) (fun _ _ i _=>nu-(intOf i).toNat)
   case atStart=>exact⟨0,0,by omega,by omega,by omega,by omega,by simp,rfl,rfl,(oN _ _).symm,rN (by have:=HL.out;simp;omega) _,zE _⟩
   case round =>
    obtain⟨k,ln,hk,hnk,hln0,hln1,rfl,rfl,rfl,HQ⟩:=hrel;have HEW:=zZ (HR.out.2.trans HQ.out.2.2);have b2:=HEW.out.cell B2.out;have d0:=HEW.out.cell D0.out;have hcu:=HQ.out.2.2.cell HCU.out;by_cases hklt:k<nu
    ·obtain⟨bu,ou,y,rfl,hcy,HY,hy1,hy2⟩:=(HIU.out.ext HQ.out.2.2).at_ hklt;by_cases hg:y=(nx:Int)+k/\nx+k<n
     ·obtain⟨hye,hnkn⟩:=hg;subst hye;obtain⟨b,off,cs1,q1,rfl,_⟩:=H.out.at_ hnkn;obtain⟨q,c0,c1,c2,c3,c4,c5,hw,HXq⟩:=(HI1.out.ext (bC.stab p) HEW.out).part hnkn;have hnb:=qp q;go_wp2_with fail;refine (sA q _).mono ?_;rintro e w2 ⟨rfl,hx2⟩;clear c0 c1 c2 c3 c4 c5 b2 hcy d0 hcu;generalize hxq:db q=x at *
      have HXN:Hid ((ps.map db)[nx+k]?=some x):=by have:=nY HXq.out;rw[hxq]at this;exact this
      clear hxq;go_wp2_with fail;go_roundw
      case rel=>exact⟨k+1,ln+x,by omega,by omega,by omega,by omega,by go_num,rfl,by go_num,by rw[lx HXN.out,<-HQ.out.1],qK HQ.out.2.1 HY.out (by simp) (by have:=HL.out;simp;omega),HQ.out.2.2.trans hx2⟩
      case measure=>simp[intOf];omega
     ·have HF:=zZ (dE (HR.out.1.bad HX.out (D7 HY.out (by have:=HL.out;simp;omega))):jH code var ps pgs=false);by_cases hnkn:n<=nx+k
      ·clear hg;go_wp2_with fail;go_ret
       exact⟨aa HF.out.symm,HE1.out.trans HEW.out⟩
      ·have e5:(y != (nx:Int)+k)=true:=by simp;omega
       clear hg;go_wp2_with fail;go_ret
       exact⟨aa HF.out.symm,HE1.out.trans HEW.out⟩
    ·obtain rfl:k=nu:=by omega
     by_cases hln:ln<=30
     ·have HOK:Hid (oW (ps.map db) nx l):=⟨by rw[HLU.out];exact HQ.out.2.1,by rw[HLU.out,<-HQ.out.1];exact hln⟩
      go_wp2_with fail;go_roundw
      case rel=>exact⟨i+1,nx+k,by omega,by omega,by go_num,by go_num,by have:=HR.out.1.next HX.out HOK.out;rw[HLU.out]at this;exact this,HEW.out⟩
      case measure=>simp[intOf];omega
     ·have HF:=zZ (dE (HR.out.1.bad HX.out (fun hk=>hln (by have:=hk.2;rw[HLU.out,<-HQ.out.1]at this;exact this))):jH code var ps pgs=false);go_wp2_with fail;go_ret
      exact⟨aa HF.out.symm,HE1.out.trans HEW.out⟩
  ·obtain rfl:i=m:=by omega
   have b2:=HR.out.2.cell B2.out;have HFIN:Hid (decide (nx=n)=jH code var ps pgs):=by
    show decide (nx=n)=jH code var ps pgs
    have hl:=HR.out.1.fin HM.out;rw[HL.out]at hl;by_cases e:nx=n
    ·rw[qh ⟨HV.out,by rw[HM.out];exact hm12,by rw[HM.out];exact HM4.out,HZ.out,hl.2 e⟩];simp[e]
    ·rw[dE (fun hk=>e (hl.1 hk.2.2.2.2))];simp[e]
   go_wp2_with fail;go_ret
   exact⟨aa (by rw[<-HFIN.out,yE];simp;omega),HE1.out.trans HR.out.2⟩
theorem pJ{w w1:World}{o o':Obj}{a b c d:Value}{t t':TypeId}(ho:o=.cells #[a,b,c] t)(ho':o'=.cells #[d] t')(h:ab ((w.alloc o).alloc o') w1) :
  w1.cell? ⟨w.heap.size,0,none⟩=some a/\w1.cell? ⟨w.heap.size,1,none⟩=some b/\w1.cell? ⟨w.heap.size,2,none⟩=some c/\w1.cell? ⟨w.heap.size+1,0,none⟩=some d:=by
 subst ho;subst ho';have h1:=Hd (h.blk (((zE _).alloc _).blk (heap_alloc_new w _)));have h2:w1.cell? ⟨w.heap.size+1,0,none⟩=some d:=by have:=h.blk (heap_alloc_new (w.alloc (.cells #[a,b,c] t)) (.cells #[d] t'));have:=ac this (i:=0) rfl;simpa using this
 exact⟨h1.1,h1.2.1,h1.2.2,h2⟩
def td(p:Nat)(w:World)(fs:List lY)(e:Ending)(w':World):Prop:=∃v,e=.returned v/\Lg p w' v fs/\ab w w'
theorem Db(code var page:Int)(v vb:Value)(ps:List av)(pgs:List (List Int))(w:World)(hp:p<w.heap.size)(h:oa p w v ps)(hb:oc p w vb pgs)(hpg:aU page) :
  Calls prog 114 #[.agg #[B C code,B C var,v],.agg #[vb],B C page] w (td p w (dr code var ps pgs page)):=by
 obtain⟨iF,hiF,hy0,hy1,hy2⟩:=info_parts Tryz.infoF;obtain⟨A,n,c,rfl,hnc,hc,hnn,HL⟩:=h.open_;obtain⟨Ab,m,cb,rfl,hmc,hcb,hmm,HM⟩:=hb.open_;obtain⟨hg1,hg2⟩:=hpg;have HE:Hid (ab w ((w.alloc (.cells #[B C code,B C var,D A n c] 84)).alloc (.cells #[D Ab m cb] 79))):=((zE _).alloc _).alloc _;have HQ:=zZ (h.ext (bC.stab p) HE.out);have HP:=zZ (hb.ext (RI.stab p) HE.out);clear h hb;by_cases hin:0<=page/\page<m
 ·obtain⟨hi0,hi1⟩:=hin;obtain⟨j,rfl⟩:=zG hi0;have hjm:j<m:=by omega
  have hkb:=pJ (w:=w) (o:=.cells #[B C code,B C var,D A n c] 84) (o':=.cells #[D Ab m cb] 79) rfl rfl (zE _);replace hkb:=zZ hkb;cases hv:jH code var ps pgs with
  |false =>
   have HF:=zZ (jb (code:=code) (var:=var) (ps:=ps) (pgs:=pgs) (page:=(j:Int)) (by simp[hv]));replace hv:=zZ hv;go_enter func114,ntmps114
   go_wp2_with fail;refine (kY _ _ _ _ ps pgs _ HQ.out HP.out).mono ?_;rintro e w1 ⟨rfl,hx1⟩;rw[hv.out];go_wp2_with fail;go_ret
   exact⟨_,rfl,by rw[HF.out];exact bj.nil _ _ _ _,HE.out.trans hx1⟩
  |true =>
   obtain⟨bb,ob,cs0,pg0,rfl,_⟩:=HP.out.at_ hjm;obtain⟨u0,pg,hcu0,hIu0,HX0⟩:=HP.out.page hjm;have HF:=zZ (gn hv HX0.out);have HPP:=zZ (jL hv HX0.out);have HI64:=zZ (rO hv HX0.out);obtain⟨Ap,np,cp,rfl,_,_,_,HLp⟩:=hIu0.open_;have hnp:np<=24:=by have:=HPP.out.1;have:=HLp.out;omega
   replace hv:=zZ hv;replace hIu0:=zZ hIu0;replace hcu0:=zZ hcu0;go_enter func114,ntmps114
   go_wp2_with fail;refine (kY _ _ _ _ ps pgs _ HQ.out HP.out).mono ?_;rintro e w1 ⟨rfl,hx1⟩;rw[hv.out];replace hx1:=zZ hx1;have hcu:=hx1.out.cell hcu0.out;obtain⟨b0,b1,b2,b3⟩:=pJ (w:=w) rfl rfl hx1.out;have HQ1:=zZ (HQ.out.ext (bC.stab p) hx1.out);have HI1:=zZ (hIu0.out.ext hx1.out);have HE1:=zZ (HE.out.trans hx1.out);have hp1:p<w1.heap.size:=zB hp HE1.out.size;clear HQ HP hIu0 hcu0 HX0 hkb;go_wp2_with fail;go_loopw [7,32] (fun s7 s32 wr=>∃(k:Nat) (fs:List lY),s32=B C k/\k<=np/\fs.length<=5*k/\Hid (fs=dO ps (pg.take k)/\kI w1.heap.size wr s7 fs/\ab w1 wr)) (fun _ i _=>np-(intOf i).toNat)
   case atStart=>exact⟨0,[],rfl,by omega,by simp,by simp[dO],kI.nil _ _,zE _⟩
   case round =>
    obtain⟨k,fs,rfl,hk,hfl,HR⟩:=hrel;clear b0 b1 b2 b3 hcu;by_cases hkn:k<np
    ·obtain⟨b0,b1,b2,b3⟩:=pJ (w:=w) rfl rfl (hx1.out.trans HR.out.2.2);obtain⟨bp,op,x0,rfl,_⟩:=HI1.out.at_ hkn;obtain⟨x,hcx,HX,hx1',hx2'⟩:=(HI1.out.ext HR.out.2.2).cell_ hkn;obtain⟨i,q,hxi,hqi,hi24,hvq⟩:=HPP.out.2 k x HX.out;subst hxi;have hin:i<n:=by have:=(zY.1 hqi).1;have:=HL.out;omega
     obtain⟨bq,oq,cs1,q1,rfl,_⟩:=HQ1.out.at_ hin;obtain⟨q',c0,c1,c2,c3,c4,c5,_,HQq⟩:=(HQ1.out.ext (bC.stab p) HR.out.2.2).part hin;obtain rfl:q'=q:=by have:=HQq.out;rw[hqi]at this;exact (xF this).symm
     have hvo:=k8 hvq;replace hqi:=zZ hqi;replace hvq:=zZ hvq;by_cases hk2:q'.kind=2
     ·have hb2:(q'.kind != 2)=false:=by simp[hk2]
      have ho5:2<=q'.opts/\q'.opts<=5:=by omega
      obtain⟨ho2,ho5⟩:=ho5;obtain⟨oo,hoo⟩:=zG (show 0<=q'.opts by omega);have HPF:Hid (jA ps (i:Int)=(List.range oo).map fun k:Nat=>⟨(i:Int),(k:Int)⟩):=by
       show _=_
       have:=ot hqi.out hk2;rw[hoo]at this;simpa using this
      rw[hoo]at c4 ho2 ho5;clear hvo hk2 hoo;obtain⟨wo,rfl⟩:=nm (wr:World);go_wp2_with fail;go_loopw [7,10,49] (fun s7 s10 s49 wr=>∃(o:Nat) (fs2:List lY),s49=B C o/\o<=oo/\fs2.length<=5*k+o/\Hid (fs2=dO ps (pg.take k)++(List.range o).map (fun k:Nat=>⟨(i:Int),(k:Int)⟩)/\kI w1.heap.size wr s7 fs2/\ab w1 wr)) (fun _ _ i _=>oo-(intOf i).toNat)
      case atStart=>exact⟨0,fs,rfl,by omega,by omega,by simpa using HR.out.1,HR.out.2.1,HR.out.2.2⟩
      case round =>
       obtain⟨o,fs2,rfl,ho,hfl2,HS⟩:=hrel;by_cases hoo':o<oo
       ·go_wp2_with (at_builtin;refine cZ _ rfl (.tmp 52) (.tmp 56) 127 rfl w1.heap.size 167 iF _ 2 16 underlying127 hiF hy0 hy1 hy2 rfl (by omega) _ _ _ rfl (HS.out.2.1.own.alloc _) _ _ _ rfl (heap_alloc_new wr _) rfl (by simp[Value.oneCell']) (by omega) (by omega) (by have:=HS.out.2.2.size;simp;omega) ?_;intro v5 w5 hown5 hg5);go_roundw
        case rel=>exact⟨v5,B C o,B C (o+1),⟨o+1,by go_num,by omega,fs2++[⟨(i:Int),(o:Int)⟩],by simp;omega,by rw[rE,HS.out.1,xY],kI.push hown5,ab.grown (HS.out.2.2.alloc _) hg5 (aq HS.out.2.1.own)⟩,rfl,rfl,rfl⟩
        case measure=>simp[intOf];omega
       ·obtain rfl:o=oo:=by omega
        go_wp2_with fail;go_roundw
        case rel=>exact⟨k+1,fs2,by go_num,by omega,by omega,by rw[lI HX.out,HPF.out];exact HS.out.1,HS.out.2⟩
        case measure=>simp[intOf];omega
     ·have hb2:(q'.kind != 2)=true:=by simp[hk2]
      have HPF:=zZ (qZ hqi.out hk2);clear hvo hk2;go_wp2_with fail;go_roundw
      case rel=>exact⟨k+1,fs,by go_num,by omega,by omega,by rw[lI HX.out,HPF.out,xN];exact HR.out.1,HR.out.2⟩
      case measure=>simp[intOf];omega
    ·obtain rfl:k=np:=by omega
     go_wp2_with fail;go_ret
     refine⟨_,rfl,?_,HE1.out.trans HR.out.2.2⟩;rw[HF.out,<-bh HLp.out,<-HR.out.1];refine HR.out.2.1.isF hp1 ?_;rw[HR.out.1,bh HLp.out];exact HI64.out
 ·have HF:=zZ (jb (code:=code) (var:=var) (ps:=ps) (pgs:=pgs) (page:=page) (by have:=HM.out;rw[this];exact fun h=>hin h.2));have hin':page<0\/(m:Int)<=page:=by omega
  clear hin;by_cases hneg:page<0
  ·clear hin';go_enter func114,ntmps114
   go_wp2_with fail;go_ret
   exact⟨_,rfl,by rw[HF.out];exact bj.nil _ _ _ _,HE.out⟩
  ·have hge:(m:Int)<=page:=by omega
   clear hin';go_enter func114,ntmps114
   go_wp2_with fail;go_ret
   exact⟨_,rfl,by rw[HF.out];exact bj.nil _ _ _ _,HE.out⟩
end Go.Proofs.YtkaajgoeahahpaaGreatDoor

