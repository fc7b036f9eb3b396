import Derived.Test.YtpaidaphacoblaaGreatDoorK44
import Derived.Test.YtpaidaphacoblaaGreatDoorSorW
set_option linter.all false
set_option maxRecDepth 100000
set_option maxHeartbeats 0
namespace Go.Proofs.YtpaidaphacoblaaGreatDoor
open Go.Value renaming int→B,slice→D
open Go.IntKind renaming i64→C
open Go.RowKit Go.Lib Go.Sort
theorem GM(xs xq xt xa xb xc xd ys yq yt ya yb yc yd:Int)(w:World) :
  Calls Tryz.prog 37 #[.agg #[B C xs,B C xq,B C xt,B C xa,B C xb,B C xc,B C xd],.agg #[B C ys,B C yq,B C yt,B C ya,B C yb,B C yc,B C yd]] w fun e w'=>e=.returned (B C (eR xs xq ys yq))/\gN w w':=by
 go_enter Tryz.func37,Tryz.ntmps37
 go_upto_region 1 with (fail)
 obtain⟨w1,hw1⟩:=nm (((w.alloc (.cells #[B C xs,B C xq,B C xt,B C xa,B C xb,B C xc,B C xd] 103)).alloc (.cells #[B C ys,B C yq,B C yt,B C ya,B C yb,B C yc,B C yd] 103)):World);have HF:Bx (aA w w1 [(w.heap.size,#[B C xs,B C xq,B C xt,B C xa,B C xb,B C xc,B C xd],103),(w.heap.size+1,#[B C ys,B C yq,B C yt,B C ya,B C yb,B C yc,B C yd],103)]):=⟨by rw[hw1];exact ((aA.start w).push _ _ rfl).push _ _ (by simp)⟩
 have HL:Bx (gN w w1):=⟨by rw[hw1];exact ((gN.refl _).alloc _).alloc _⟩
 rw[<-hw1];clear hw1;obtain⟨a0,a1⟩:=(HF.out.at_ 0 rfl).p2 rfl;obtain⟨b0,b1⟩:=(HF.out.at_ 1 rfl).p2 rfl;refine zR 16 (fun w'=>gN w1 w') ?_;have kS:(fun w'=>gN w1 w') w1.drew:=(gN.refl _).drew;have kD:ab w1 w1.drew:=(zE _).drew;obtain⟨wd,hwd⟩:=nm (w1.drew:World);rw[<-hwd]at kS kD⊢;clear hwd;refine zS 12 [(0,5),(1,6),(2,7),(3,8),(4,9),(5,10),(7,12),(8,13),(9,14),(10,15),(11,16),(12,17)] kS ?_;iterate 12 refine zT ?_ (y:=by intro wk hk;(replace a0:=hk.ext.cell a0);(replace a1:=hk.ext.cell a1);(replace b0:=hk.ext.cell b0);(replace b1:=hk.ext.cell b1);go_simp;try with_reducible rfl)
 refine zN (zO 6 (fun K hK=>?_));go_simp;refine (fN xs ys _).mono ?_;rintro e w2 ⟨rfl,rfl⟩;refine hK.out _ _ (fun _=>kS) ?_;clear hK K;try simp only[kA]
 refine zO 13 (fun K hK=>?_);go_simp;refine (fN xq yq _).mono ?_;rintro e w2 ⟨rfl,rfl⟩;refine hK.out _ _ (fun _=>kS) ?_;clear hK K;try simp only[kA]
 refine zO 14 (fun K hK=>?_);go_simp;obtain⟨gb,hgb⟩:=nm wd.heap.size;obtain⟨w3,hw3⟩:=nm ((wd.alloc (.cells #[B C (bg xs ys),B C (bg xq yq)] 3)):World);have HB:Bx (Bk w3 gb #[B C (bg xs ys),B C (bg xq yq)] 3):=⟨by rw[hw3,hgb];exact Bk.new _ _ _⟩
 have kS3:gN w1 w3:=by rw[hw3];exact kS.alloc _
 rw[<-hw3,<-hgb];clear hw3 hgb;refine hK.out _ _ (fun _=>kS3) ?_;clear hK K;try simp only[kA]
 refine zO 15 (fun K hK=>?_);go_simp;refine (qd _ _ _ _ 2 (gC _ _) (gC _ _) HB.out).mono ?_;rintro e w2 ⟨rfl,rfl⟩;rw[uw];refine hK.out _ _ (fun _=>kS3) ?_;clear hK K;try simp only[kA]
 refine zO 16 (fun K hK=>?_);go_simp;refine hK.out _ _ (fun h=>absurd rfl h) ?_;clear hK K;refine zD ?_;go_wp2_with fail;go_ret
 exact⟨rfl,HL.out.trans kS3⟩
theorem Hg(xc xg xt xs xq yc yg yt ys yq:Int)(xA yA:Option Addr)(xn xcc yn ycc:Nat)(w:World) :
  Calls Tryz.prog 41 #[.agg #[B C xc,B C xg,B C xt,D xA xn xcc,B C xs,B C xq],.agg #[B C yc,B C yg,B C yt,D yA yn ycc,B C ys,B C yq]] w fun e w'=>e=.returned (B C (eR xc xg yc yg))/\gN w w':=by
 go_enter Tryz.func41,Tryz.ntmps41
 go_upto_region 1 with (fail)
 obtain⟨w1,hw1⟩:=nm (((w.alloc (.cells #[B C xc,B C xg,B C xt,D xA xn xcc,B C xs,B C xq] 80)).alloc (.cells #[B C yc,B C yg,B C yt,D yA yn ycc,B C ys,B C yq] 80)):World);have HF:Bx (aA w w1 [(w.heap.size,#[B C xc,B C xg,B C xt,D xA xn xcc,B C xs,B C xq],80),(w.heap.size+1,#[B C yc,B C yg,B C yt,D yA yn ycc,B C ys,B C yq],80)]):=⟨by rw[hw1];exact ((aA.start w).push _ _ rfl).push _ _ (by simp)⟩
 have HL:Bx (gN w w1):=⟨by rw[hw1];exact ((gN.refl _).alloc _).alloc _⟩
 rw[<-hw1];clear hw1;obtain⟨a0,a1⟩:=(HF.out.at_ 0 rfl).p2 rfl;obtain⟨b0,b1⟩:=(HF.out.at_ 1 rfl).p2 rfl;refine zR 12 (fun w'=>gN w1 w') ?_;have kS:(fun w'=>gN w1 w') w1.drew:=(gN.refl _).drew;have kD:ab w1 w1.drew:=(zE _).drew;obtain⟨wd,hwd⟩:=nm (w1.drew:World);rw[<-hwd]at kS kD⊢;clear hwd;refine zS 8 [(0,5),(1,6),(2,7),(3,8),(5,10),(6,11),(7,12),(8,13)] kS ?_;iterate 8 refine zT ?_ (y:=by intro wk hk;(replace a0:=hk.ext.cell a0);(replace a1:=hk.ext.cell a1);(replace b0:=hk.ext.cell b0);(replace b1:=hk.ext.cell b1);go_simp;try with_reducible rfl)
 refine zN (zO 4 (fun K hK=>?_));go_simp;refine (fN xc yc _).mono ?_;rintro e w2 ⟨rfl,rfl⟩;refine hK.out _ _ (fun _=>kS) ?_;clear hK K;try simp only[kA]
 refine zO 9 (fun K hK=>?_);go_simp;refine (fN xg yg _).mono ?_;rintro e w2 ⟨rfl,rfl⟩;refine hK.out _ _ (fun _=>kS) ?_;clear hK K;try simp only[kA]
 refine zO 10 (fun K hK=>?_);go_simp;obtain⟨gb,hgb⟩:=nm wd.heap.size;obtain⟨w3,hw3⟩:=nm ((wd.alloc (.cells #[B C (bg xc yc),B C (bg xg yg)] 3)):World);have HB:Bx (Bk w3 gb #[B C (bg xc yc),B C (bg xg yg)] 3):=⟨by rw[hw3,hgb];exact Bk.new _ _ _⟩
 have kS3:gN w1 w3:=by rw[hw3];exact kS.alloc _
 rw[<-hw3,<-hgb];clear hw3 hgb;refine hK.out _ _ (fun _=>kS3) ?_;clear hK K;try simp only[kA]
 refine zO 11 (fun K hK=>?_);go_simp;refine (qd _ _ _ _ 2 (gC _ _) (gC _ _) HB.out).mono ?_;rintro e w2 ⟨rfl,rfl⟩;rw[uw];refine hK.out _ _ (fun _=>kS3) ?_;clear hK K;try simp only[kA]
 refine zO 12 (fun K hK=>?_);go_simp;refine hK.out _ _ (fun h=>absurd rfl h) ?_;clear hK K;refine zD ?_;go_wp2_with fail;go_ret
 exact⟨rfl,HL.out.trans kS3⟩
instance:Inhabited dF:=⟨⟨⟨0,0⟩,0,⟨0,0,0,0⟩⟩⟩
theorem Iy(a b:dF):eR a.scan.s a.scan.q b.scan.s b.scan.q<0↔bU a b=true:=by unfold bU et;rw[decide_eq_true_eq];rcases cT a.scan.s a.scan.q b.scan.s b.scan.q with ⟨g,r⟩|⟨g,r⟩|⟨g,r⟩<;>omega
theorem KJ(a b:Pg):eR a.cand a.page b.cand b.page<0↔dW a b=true:=by unfold dW;rw[decide_eq_true_eq];rcases cT a.cand a.page b.cand b.page with ⟨g,r⟩|⟨g,r⟩|⟨g,r⟩<;>omega
theorem Et(base:Nat)(v:Value)(l:List dF)(w W:World)(hn:l.length<=1000000)(h:ah base 103 7 (cU W) w v l) :
  Calls Tryz.prog 36 #[v,.func (.func 37) #[] #[]] w fun e w'=>e=.returned (.tuple #[])/\∃l':List dF,l'.Perm l/\(l'.Pairwise fun a b=>¬bU b a=true)/\ah base 103 7 (cU W) w' v l'/\w.grownBy w' v.ownBlock:=by
 obtain⟨css,h1,h2,h3,h4⟩:=h;have hcs:css=l.map dF.cells:=by
  apply xW;intro k;rcases zU k l.length with hk|hk
  ·have hc:css[k]?=some (css[k]'(by omega)):=zV _;have hx:l[k]?=some (l[k]'hk):=zV _;rw[hc,zP,hx,(h4 k _ _ hc hx).1];rfl
  ·rw[zC (by omega),zC (by simp;omega)]
 have hwf:∀x∈l,x.wf:=fun x hx=>by obtain⟨k,hk⟩:=zH hx;have:=(zY.1 hk).1;exact (h4 k _ _ (zV (by omega)) hk).2
 rw[hcs]at h3;have eg:∀args w,(callFunc 37 args).run Tryz.prog w=.ok (.enter 37 args) w:=enters_of Tryz.func37 (by kernel_rfl) rfl;refine (J1 (ρ:=m6) FR 7 (by decide) Tryz.isAgg103 Tryz.sizeOf103 dF.cells (fun _=>rfl) (fun x v hv=>by simp only[dF.cells,yM,wL,or_false]at hv;rcases hv with rfl|rfl|rfl|rfl|rfl|rfl|rfl<;>rfl) (fun a b=>eR a.scan.s a.scan.q b.scan.s b.scan.q) (fun x=>At _ _) (fun x y z=>Dr) (fun x y z=>Ar) _ eg (fun w1 x y=>GM _ _ _ _ _ _ _ _ _ _ _ _ _ _ w1) base _ v l w hn h3).mono ?_
 rintro e w' ⟨rfl,l',p1,p2,p3,p4⟩;refine⟨rfl,l',p1,p2.imp fun {a b} h=>by rwa [Iy]at h,⟨l'.map dF.cells,by simp,fun cs hc=>by obtain⟨x,_,rfl⟩:=zF.1 hc;rfl,by rw[p1.length_eq];exact p3,fun k cs x hc hx=>?_⟩,p4⟩;rw[zP,hx]at hc;injection hc with hc;exact⟨hc.symm,hwf x (p1.mem_iff.1 (zW hx))⟩
structure FA where
 pg:Pg
 A:Option Addr
 n:Nat
 c:Nat
instance:Inhabited FA:=⟨⟨⟨0,0,0,[],⟨0,0⟩⟩,none,0,0⟩⟩
def FA.cells(x:FA):List Value:=x.pg.cells (D x.A x.n x.c)
theorem Ef(base:Nat)(v:Value)(l:List Pg)(w:World)(R:List Value->Pg->Prop)(hR:∀cs x,R cs x->∃A n c,cs=x.cells (D A n c))(hn:l.length<=1000000)(h:ah base 80 6 R w v l) :
  Calls Tryz.prog 40 #[v,.func (.func 41) #[] #[]] w fun e w'=>e=.returned (.tuple #[])/\∃l':List Pg,l'.Perm l/\(l'.Pairwise fun a b=>¬dW b a=true)/\ah base 80 6 R w' v l'/\w.grownBy w' v.ownBlock:=by
 obtain⟨css,h1,h2,h3,h4⟩:=h;obtain⟨zs,e1,e2,e3⟩:∃zs:List FA,zs.map FA.pg=l/\zs.map FA.cells=css/\∀a∈zs,R a.cells a.pg:=by
  clear h3 h2;induction l generalizing css with
  |nil =>
   obtain rfl:css=[]:=xZ h1;exact⟨[],rfl,rfl,fun a h=>by simp at h⟩
  |cons x l ih =>
   match css,h1,h4 with
   |cs::css,h1,h4 =>
    obtain⟨zs,a1,a2,a3⟩:=ih (by simp at hn;omega) css (by simpa using h1) (fun k c y hc hy=>h4 (k+1) c y (by simpa using hc) (by simpa using hy));have hr:=h4 0 cs x rfl rfl;obtain⟨A,n,c,e⟩:=hR _ _ hr;refine⟨⟨x,A,n,c⟩::zs,by simp[a1],by simp[a2,FA.cells,e],fun a ha=>?_⟩;rcases yM.1 ha with rfl|ha
    ·unfold FA.cells;rw[<-e];exact hr
    ·exact a3 a ha
 have hl:zs.length=l.length:=by rw[<-e1];simp
 rw[<-e2,<-hl]at h3;have eg:∀args w,(callFunc 41 args).run Tryz.prog w=.ok (.enter 41 args) w:=enters_of Tryz.func41 (by kernel_rfl) rfl;refine (J1 (ρ:=mV) Hb 6 (by decide) Tryz.isAgg80 Tryz.sizeOf80 FA.cells (fun _=>rfl) (fun x v hv=>by simp only[FA.cells,Pg.cells,yM,wL,or_false]at hv;rcases hv with rfl|rfl|rfl|rfl|rfl|rfl<;>rfl) (fun a b=>eR a.pg.cand a.pg.page b.pg.cand b.pg.page) (fun x=>At _ _) (fun x y z=>Dr) (fun x y z=>Ar) _ eg (fun w1 x y=>Hg _ _ _ _ _ _ _ _ _ _ _ _ _ _ _ _ w1) base _ v zs w (by omega) h3).mono ?_
 rintro e w' ⟨rfl,l',p1,p2,p3,p4⟩;refine⟨rfl,l'.map FA.pg,by rw[<-e1];exact p1.map _,?_,⟨l'.map FA.cells,by simp,fun cs hc=>by obtain⟨x,_,rfl⟩:=zF.1 hc;rfl,by rw[zJ,p1.length_eq];exact p3,fun k cs x hc hx=>?_⟩,p4⟩
 ·rw[uK];exact p2.imp fun {a b} h=>by rwa [KJ]at h
 ·rw[zP,yO]at hc hx;obtain⟨a,ha,rfl⟩:=hc;obtain⟨b,hb,rfl⟩:=hx;rw[ha]at hb;injection hb with hb;subst hb
  exact e3 a (p1.mem_iff.1 (zW ha))
end Go.Proofs.YtpaidaphacoblaaGreatDoor

namespace Go.Proofs.YtpaidaphacoblaaGreatDoor
open Go.Value renaming int→B,slice→D
open Go.IntKind renaming i64→C
open Go.RowKit
variable {b' base e g n p size:Nat} {w w':World} {v:Value} {cs:List Value} {t:TypeId}
theorem ah.inner{α:Type}{R:List Value->α->Prop}{xs:List α}(h:ah base e size R w v xs):∃n cs,w.ownsRow base e size v n cs:=by obtain⟨css,_,_,h3,_⟩:=h;exact⟨_,_,h3⟩
theorem Ke(h:w.ownsRow base e size v n cs){r:Nat}(hr:v.ownBlock=some r):base<=r/\∃cur,Bk w r cur e:=by
 rcases h.2 with ⟨rfl,_⟩|⟨g',cap,cur,rfl,hb,hh,_⟩
 ·simp[Value.ownBlock]at hr
 ·simp only[Value.ownBlock]at hr;injection hr with hr;subst hr;exact⟨hb,cur,hh⟩
theorem ah.impR{α:Type}{R R':List Value->α->Prop}{xs:List α}(h:ah base e size R w v xs)(hR:∀cs x,R cs x->R' cs x):ah base e size R' w v xs:=by obtain⟨css,h1,h2,h3,h4⟩:=h;exact⟨css,h1,h2,h3,fun k cs x a b=>hR _ _ (h4 k cs x a b)⟩
def gQ(w:World)(base:Nat)(row:Option Nat)(t:TypeId):Prop:=∀r,row=some r->base<=r/\∃cur,Bk w r cur t
theorem gQ.own(h:w.ownsRow base e size v n cs):gQ w base v.ownBlock e:=fun _ hr=>Ke h hr
theorem gQ.blk{cs:Array Value}(h:Bk w g cs t):gQ w g (some g) t:=fun r e=>by injection e with e;subst e;exact⟨zX _,_,h⟩
theorem Cb{row:Option Nat}(h:w.ownsRow base e size v n cs)(hg:w.grownBy w' row)(ht:gQ w b' row t)(hne:t≠e):w'.ownsRow base e size v n cs:=by
 cases hv:v.ownBlock with
 |none=>exact h.kept hg (.inl hv)
 |some r=>exact h.kept hg (.inr (fun e'=>by rw[hv]at e';obtain⟨_,cur,hb⟩:=ht r e'.symm;exact tX h hb hne hv))
theorem ah.turn{α:Type}{R:List Value->α->Prop}{xs:List α}{row:Option Nat}(h:ah base e size R w v xs)(hg:w.grownBy w' row)(ht:gQ w b' row t)(hne:t≠e):ah base e size R w' v xs:=by obtain⟨css,h1,h2,h3,h4⟩:=h;exact⟨css,h1,h2,Cb h3 hg ht hne,h4⟩
theorem Bk.turn{cs:Array Value}{t':TypeId}{row:Option Nat}(h:Bk w g cs t)(hg:w.grownBy w' row)(ht:gQ w b' row t')(hne:t'≠t):Bk w' g cs t :=
 h.grown hg (fun e=>by obtain⟨_,cur,hb⟩:=ht g e;unfold Bk at h hb;rw[h]at hb;injection hb with hb;injection hb with _ hb _;exact hne hb.symm)
def oU(base:Nat)(w:World)(cs:List Value)(g:Pg):Prop:=∃A n c,cs=g.cells (D A n c)/\w.ownsRow base 3 1 (D A n c) g.ch.length (g.ch.map (Value.int .i64))/\g.wf/\(∀x∈g.ch,aU x)/\g.ch.length<=1000
theorem oU.ext{g:Pg}(h:oU base w cs g)(x:ab w w'):oU base w' cs g:=by obtain⟨A,n,c,h1,h2,h3⟩:=h;exact⟨A,n,c,h1,ao h2 x,h3⟩
theorem oU.turn{g:Pg}{row:Option Nat}(h:oU base w cs g)(hg:w.grownBy w' row)(ht:gQ w b' row t)(hne:t≠3):oU base w' cs g:=by obtain⟨A,n,c,h1,h2,h3⟩:=h;exact⟨A,n,c,h1,Cb h2 hg ht hne,h3⟩
theorem oU.pg{g:Pg}(h:oU base w cs g)(hp:p<base):lO p w cs g:=by obtain⟨A,n,c,h1,h2,h3,h4,h5⟩:=h;exact⟨_,h1,ak.of_own (p:=p) h2 hp h4 (by omega),h3⟩
structure dy (W1 wr:World) (gI b2:Nat) (vS vG:Value) (xs:List dF) (ys:List Pg):Prop where
 x:ab W1 wr
 it:Bk wr gI #[vS,vG] 45
 st:ah b2 103 7 (cU W1) wr vS xs
 pg:ah b2 80 6 (oU b2 wr) wr vG ys
 g1:W1.heap.size<=gI
 g2:gI<b2
 g3:b2<=wr.heap.size
section
variable {W1 wr w':World} {gI b2:Nat} {vS vG v':Value} {xs:List dF} {ys:List Pg} {y:dF} {z:Pg}
theorem dy.ext(h:dy W1 wr gI b2 vS vG xs ys)(e:ab wr w'):dy W1 w' gI b2 vS vG xs ys :=
 ⟨h.x.trans e,h.it.ext e,h.st.ext e,(h.pg.ext e).impR (fun _ _ hr=>hr.ext e),h.g1,h.g2,yR h.g3 e.size⟩
theorem rQ(w:World)(g i:Nat)(u:Value):w.grownBy (w.setCell ⟨g,i,none⟩ u) (some g):=ez g [u] w i
theorem dy.addS(h:dy W1 wr gI b2 vS vG xs ys)(ho:ah b2 103 7 (cU W1) w' v' (xs++[y]))(hg:wr.grownBy w' vS.ownBlock) :
  Bk w' gI #[vS,vG] 45/\dy W1 (w'.setCell ⟨gI,0,none⟩ v') gI b2 v' vG (xs++[y]) ys:=by
 obtain⟨n,cs,hr⟩:=h.st.inner;have ht:=gQ.own hr;have hb:=h.it.turn hg ht (by decide);have ht2:=gQ.blk hb;have hg2:=rQ w' gI 0 v';refine⟨hb,(h.x.grown hg (fun k e=>by have:=(ht k e).1;have:=h.g1;have:=h.g2;omega)).grown hg2 (fun k e=>by injection e with e;subst e;exact h.g1),hb.set 0 v',ho.turn hg2 ht2 (by decide),
  ((h.pg.turn hg ht (by decide)).turn hg2 ht2 (by decide)).impR (fun _ _ hr=>(hr.turn hg ht (by decide)).turn hg2 ht2 (by decide)),h.g1,h.g2,?_⟩
 have:=h.g3;have:=hg.size;have:=hg2.size;omega
theorem dy.addG(h:dy W1 wr gI b2 vS vG xs ys)(ho:ah b2 80 6 (oU b2 wr) w' v' (ys++[z]))(hg:wr.grownBy w' vG.ownBlock) :
  Bk w' gI #[vS,vG] 45/\dy W1 (w'.setCell ⟨gI,1,none⟩ v') gI b2 vS v' xs (ys++[z]):=by
 obtain⟨n,cs,hr⟩:=h.pg.inner;have ht:=gQ.own hr;have hb:=h.it.turn hg ht (by decide);have ht2:=gQ.blk hb;have hg2:=rQ w' gI 1 v';refine⟨hb,(h.x.grown hg (fun k e=>by have:=(ht k e).1;have:=h.g1;have:=h.g2;omega)).grown hg2 (fun k e=>by injection e with e;subst e;exact h.g1),hb.set 1 v',(h.st.turn hg ht (by decide)).turn hg2 ht2 (by decide),
  (ho.turn hg2 ht2 (by decide)).impR (fun _ _ hr=>(hr.turn hg ht (by decide)).turn hg2 ht2 (by decide)),h.g1,h.g2,?_⟩
 have:=h.g3;have:=hg.size;have:=hg2.size;omega
theorem dy.srtS{xs':List dF}(h:dy W1 wr gI b2 vS vG xs ys)(ho:ah b2 103 7 (cU W1) w' vS xs')(hg:wr.grownBy w' vS.ownBlock):dy W1 w' gI b2 vS vG xs' ys:=by obtain⟨n,cs,hr⟩:=h.st.inner;have ht:=gQ.own hr;exact⟨h.x.grown hg (fun k e=>by have:=(ht k e).1;have:=h.g1;have:=h.g2;omega),h.it.turn hg ht (by decide),ho,(h.pg.turn hg ht (by decide)).impR (fun _ _ hr=>hr.turn hg ht (by decide)),h.g1,h.g2,yR h.g3 hg.size⟩
theorem dy.srtG{ys':List Pg}(h:dy W1 wr gI b2 vS vG xs ys)(ho:ah b2 80 6 (oU b2 wr) w' vG ys')(hg:wr.grownBy w' vG.ownBlock):dy W1 w' gI b2 vS vG xs ys':=by obtain⟨n,cs,hr⟩:=h.pg.inner;have ht:=gQ.own hr;exact⟨h.x.grown hg (fun k e=>by have:=(ht k e).1;have:=h.g1;have:=h.g2;omega),h.it.turn hg ht (by decide),h.st.turn hg ht (by decide),ho.impR (fun _ _ hr=>hr.turn hg ht (by decide)),h.g1,h.g2,yR h.g3 hg.size⟩
end
theorem dy.start(w:World):dy w (w.alloc (.cells #[D none 0 0,D none 0 0] 45)) w.heap.size (w.heap.size+1) (D none 0 0) (D none 0 0) [] [] :=
 ⟨(zE _).alloc _,Bk.new _ _ _,ah.nil,ah.nil,zX _,Nat.lt_succ_self _,by simp⟩
theorem G5{α:Type}{lt:α->α->Bool}{l l':List α}(p:l'.Perm l)(h:l.Pairwise fun a b=>lt a b=true\/lt b a=true)(h':l'.Pairwise fun a b=>¬lt b a=true):iT lt l':=by have h2:l'.Pairwise fun a b=>lt a b=true\/lt b a=true:=h.perm p.symm (fun h=>h.symm);exact List.Pairwise.imp₂ (fun _ _ h1 h2=>h1.resolve_right h2) h2 h'
theorem GE{s:dl}{L:List aj}{y0:dH}{j0:Nat}(h:(af s L)[j0]?=some y0)(j:Nat):pb L y0.cap j=kr (af s L) y0 j:=by
 unfold pb kr;unfold af;rw[zP];cases L[j]? with
 |none=>rfl
 |some z =>
  simp only[Option.map_some];unfold en;rw[ff]
theorem FM{s:dl}{L:List aj}{y0:dH}{j0:Nat}(h:(af s L)[j0]?=some y0)(js:List Nat):js.any (pb L y0.cap)=js.any (kr (af s L) y0):=by congr 1;funext j;exact GE h j
theorem dy.keepG{W1 wr:World}{gI b2:Nat}{vS vG:Value}{xs:List dF}{ys:List Pg}{cs:Array Value}(h:dy W1 wr gI b2 vS vG xs ys)(hg:wr.grownBy w' vG.ownBlock)(hb:Bk wr g cs t)(ht:80≠t):Bk w' g cs t:=by obtain⟨n,cs,hr⟩:=h.pg.inner;exact hb.turn hg (gQ.own hr) ht
theorem dy.fin{W1 wr:World}{gI b2 r:Nat}{vS vG:Value}{xs:List dF}{ys:List Pg}{cs:Array Value}(h:dy W1 wr gI b2 vS vG xs ys)(hp:p<W1.heap.size)(hb:Bk wr r cs 45)(vs:List Value):aK p (be wr r 0 vs) (.agg #[vS,vG]) ⟨xs,ys⟩:=by have h1:=h.g1;have h2:=h.g2;have hg:=ez r vs wr 0;have ht:=gQ.blk hb;exact⟨_,_,rfl,(h.st.turn hg ht (by decide)).isS (by decide) (by omega) (fun _ _ hr=>hr),((h.pg.turn hg ht (by decide)).impR (fun _ _ hr=>hr.turn hg ht (by decide))).isS (by decide) (by omega) (fun _ _ hr=>hr.pg (by omega))⟩
theorem Gq(s:dl)(l:List aj){c:aj}(hc:c.kind=1):∃a b d e sx,aM s l c=⟨c,⟨a,b,d,e⟩,sx,decide (sx=0)⟩:=by
 unfold aM;rw[if_pos hc];generalize aQ l c.id=z;obtain⟨⟨a,b,d,e⟩,st⟩:=z;refine⟨a,b,d,e,if st=0 then (if bH s ⟨a,b,d,e⟩ c.ch then 0 else 5) else st,?_⟩;simp only;by_cases h0:st=0
 ·cases hf:bH s ⟨a,b,d,e⟩ c.ch<;>simp[h0,hf]
 ·simp[h0]
theorem IW{R:List dH}{k:Nat}{x:dH}(h:(lQ x).wf):(lN R k x).wf:=by
 refine⟨h.1,?_,h.2.2⟩;unfold lN cR;simp only;split
 ·rcases sw R k x with e|e|e<;>(rw[e];exact⟨by decide,by decide⟩)
 ·exact h.2.1
theorem Ky{x:dH}(h:(lQ x).wf)(hc:x.cap.wf):(Gs x).wf:=⟨h.2.2.2.1,h.2.2.2.2.1,hc.2.2.2.1,h.1,hc.2.2.2.2.2.2⟩
theorem Ek{s:dl}{L:List aj}{x:dH}{k b:Nat}{G:Value->List Nat}{vg:Value}(hn:n=L.length)(hn3:n<=300)(hx:(af s L)[k]?=some x)(hf:x.fit=true)(hgo:∀c g,G (r9 c g)=ed (af s L) n c g)(hrow:w.ownsRow b 3 1 vg (G (r9 x.lab.c x.lab.g)).length ((G (r9 x.lab.c x.lab.g)).map nW))(hp:p<b) :
  ∃(js:List Nat) (j0:Nat) (y0:aj),ak p w vg (js.map fun j:Nat=>(j:Int))/\js[0]?=some j0/\L[j0]?=some y0/\(∀j∈js,j<L.length)/\FZ (js.any (pb L y0)) k j0=cR (af s L) k x:=by
 obtain⟨j0,t,y0,hG,h1,h2,h3⟩:=Ex hx hf;rw[hgo,hn,hG]at hrow;have hlt:∀j∈j0::t,j<L.length:=fun j hj=>by rw[<-hG]at hj;exact (lh.1 hj).1
 have hll:(j0::t).length<=L.length:=by rw[<-hG];exact G8 _ _ _ _
 refine⟨j0::t,j0,y0.cap,?_,rfl,(de h2).1,hlt,?_⟩
 ·have e:(j0::t).map nW=((j0::t).map fun j:Nat=>(j:Int)).map (Value.int .i64):=by rw[vY];rfl
  rw[e]at hrow;have e2:(j0::t).length=((j0::t).map fun j:Nat=>(j:Int)).length:=by simp
  rw[e2]at hrow;refine ak.of_own (p:=p) hrow hp (fun z hz=>?_) (by rw[<-e2];omega);obtain⟨j,hj,rfl⟩:=zF.1 hz;have:=hlt j hj;constructor<;>omega
 ·rw[FM h2];unfold cR;rw[if_pos hf,h3];unfold FZ;rfl
theorem CM{P:Program}{α:Type}{ops:Array Oper}{o:Oper}{a:Act}{K:Act->World->Prop}{Q:Exit->Act->World->Prop}{E:Prop}(hgd:o.guard=none)(s x:Operand)(t:TypeId)(ho:o.op=.call { callee:=.builtin .append,args:=#[s,x],argTypes:=#[t,t] })(base:Nat)(e:TypeId)(i:TypeInfo)(z:Value)(size bytes:Nat)(ht:P.underlying t=some (.slice e))(hi:P.info? e=some i)(hz:i.zero=some z)(hsize:i.size=size)(hby:i.bytes=bytes)(hzs:z.cells.size=size)(hsz:0<size)(R:List Value->α->Prop)(A:Option Addr)(n c:Nat)(xs:List α)(hs:a.eval s=D A n c)(hn:xs.length=n)(hown:ah base e size R w (D A n c) xs)(g:Nat)(us:List Value)(y:α)(hx:a.eval x=D (some ⟨g,0,none⟩) 1 1)(hnews:∀j u,us[j]?=some u->w.cell? ((⟨g,0,none⟩:Addr).add j)=some u)(hul:us.length=size)(h1:∀u∈us,u.oneCell'=true)(hR:R us y)(hn1:n<=1000000)(hb:bytes<=1000)(hbase:base<=w.heap.size)(h:∀g' c' w',ah base e size R w' (D (some ⟨g',0,none⟩) (n+1) c') (xs++[y])->w.grownBy w' (Value.slice A n c).ownBlock->K (a.put o.dst (D (some ⟨g',0,none⟩) (n+1) c')) w') :
  if Region.wanted o (yielded ops a.tmps)=true then Oper.wp P o a w K Q else E:=by
 subst hn;obtain⟨css,h2,h3,h4,h5⟩:=hown;have hbb:(xs.length+1)*bytes<=(xs.length+1)*1000:=wB _ hb;refine step_append_lies w hgd s x t ho base e i z size bytes ht hi hz hsize hby hzs hsz (D A xs.length c) xs.length css.flatten hs h4 ⟨g,0,none⟩ 1 1 us hx (by omega) hnews h1 (by omega) (by unfold maxLen;omega) (by omega) hbase w.heap.size rfl fun g' c' w' ho hg _ _=>h g' c' w' (ah.app (css2:=[us]) h2 (by simp) h3 (fun cs hc=>?_) h5 (fun k cs x hc hx=>?_) (by simpa using ho)) hg
 ·obtain rfl:cs=us:=by simpa using hc
  exact hul
 ·obtain rfl:k=0:=by have:=(zY.1 hx).1;simp at this;exact this
  simp at hc hx;subst hc;subst hx;exact hR
open _root_.Go.Proofs.Tryz
theorem mK(v:Value)(l:List aj)(si qi:Int)(w:World)(hT:cK w)(hv:au p w v l) :
  Calls prog 31 #[v,.agg #[B C si,B C qi]] w (Gd l ⟨si,qi⟩ w):=by
 obtain⟨A,n,c,rfl,hnc,hcc,hnn,HL⟩:=hv.open_;have HV:Bx (au p w (D A n c) l):=⟨hv⟩
 have HT:Bx (cK w):=⟨hT⟩
 clear hv hT;obtain⟨w1,hw1⟩:=nm (((w.alloc (.cells #[B C si,B C qi] 37)).alloc (.cells #[B C 0,B C 0,B C 0,B C 0] 39)):World);have HF:Bx (aA w w1 [(w.heap.size,#[B C si,B C qi],37),(w.heap.size+1,#[B C 0,B C 0,B C 0,B C 0],39)]):=⟨by rw[hw1];exact ((aA.start w).push _ _ rfl).push _ _ (by simp)⟩
 go_enter func31,ntmps31
 go_upto_region 1 with (fail)
 rw[<-hw1];clear hw1;go_wp2_with fail;go_loopw [6,7,14] (fun s6 s7 s8 wr=>∃(k:Nat) (a d:Int),s6=B C a/\s7=B C d/\s8=B C k/\k<=n/\Bx (aA w wr [(w.heap.size,#[B C si,B C qi],37),(w.heap.size+1,#[B C 0,B C 0,B C 0,B C 0],39)]/\fQ l ⟨si,qi⟩ k a/\cV l ⟨si,qi⟩ k d)) (fun _ _ k _=>n-(intOf k).toNat)
 case atStart=>exact⟨0,-1,-1,rfl,rfl,rfl,by omega,⟨⟨HF.out,fQ.zero _ _,cV.zero _ _⟩⟩⟩
 case round =>
  obtain⟨k,a,d,rfl,rfl,rfl,hk,HR⟩:=hrel;clear HF;by_cases hkn:k<n
  ·obtain⟨b,off,_,_,rfl,-⟩:=HV.out.at_ hkn;obtain⟨t,s,q,kd,ct,ts,tq,lp,lc,lg,lv,str,ch,Au,mu,cu,HX,hcs,-,-⟩:=au.read HV.out HR.out.1.xt.xt hkn;obtain⟨c0,c1,c2,c3,c4,c5,c6,c7,c8,c9,c10,c11,c12⟩:=hcs;have HS:Bx (dm ⟨si,qi⟩ ⟨⟨t,s,q⟩,kd,str,ct,ch,⟨ts,tq⟩,⟨lp,lc,lg,lv⟩⟩=(decide (kd=1)&&decide (s=si/\q=qi))):=⟨by unfold dm aj.id;congr 1;rw[yE];simp only[decide_eq_true_eq,gT.eq_iff]⟩
   have HD:Bx (fH ⟨si,qi⟩ ⟨⟨t,s,q⟩,kd,str,ct,ch,⟨ts,tq⟩,⟨lp,lc,lg,lv⟩⟩=((decide (kd=2)||decide (kd=3))&&decide (ts=si/\tq=qi))):=⟨by unfold fH;congr 1;rw[yE];simp only[decide_eq_true_eq,gT.eq_iff]⟩
   have HA:Bx (fQ l ⟨si,qi⟩ k a):=⟨HR.out.2.1⟩
   have HB:Bx (cV l ⟨si,qi⟩ k d):=⟨HR.out.2.2⟩
   go_upto_region 5 with (fail)
   obtain⟨g,hg⟩:=nm wr.heap.size;obtain⟨w2,hw2⟩:=nm ((wr.alloc (.cells #[B C t,B C s,B C q,B C kd,.string (ba str),B C ct,D Au mu cu,B C ts,B C tq,B C lp,B C lc,B C lg,B C lv] 41)):World);have HF:Bx (aA w w2 [(w.heap.size,#[B C si,B C qi],37),(w.heap.size+1,#[B C 0,B C 0,B C 0,B C 0],39),(g,#[B C t,B C s,B C q,B C kd,.string (ba str),B C ct,D Au mu cu,B C ts,B C tq,B C lp,B C lc,B C lg,B C lv],41)]):=⟨by rw[hw2];exact HR.out.1.push _ _ hg.symm⟩
   rw[<-hw2,<-hg];clear hw2 hg HR c0 c1 c2 c3 c4 c5 c6 c7 c8 c9 c10 c11 c12;obtain⟨y0,y1,y2,y3,y4,y5,y6,y7,y8,y9,y10,y11,y12⟩:=(HF.out.at_ 2 rfl).p13 rfl;obtain⟨i0,i1⟩:=(HF.out.at_ 0 rfl).p2 rfl;have HE:Bx (aA w w2 [(w.heap.size,#[B C si,B C qi],37),(w.heap.size+1,#[B C 0,B C 0,B C 0,B C 0],39)]):=⟨HF.out.take 2⟩
   by_cases h1:kd=1
   ·have h1b:(kd==1)=true:=by rw[h1];rfl
    have HN:=zZ (HB.out.no HX.out (by rw[HD.out,h1];rfl));have HS1:=zZ (show dm ⟨si,qi⟩ ⟨⟨t,s,q⟩,kd,str,ct,ch,⟨ts,tq⟩,⟨lp,lc,lg,lv⟩⟩=decide (s=si/\q=qi) by rw[HS.out,h1];rfl);subst h1;clear HS HD HB;by_cases ha:a<0
    ·have hab:decide (a<0)=true:=decide_eq_true ha;go_upto_region 7 with (fail)
     refine zQ 99 fun wd kS=>?_;refine zS 5 [(0,23),(1,24),(2,25),(3,26),(5,28)] kS ?_;iterate 5 refine zT ?_ (y:=by intro wk hk;obtain⟨_,_,_,_,_,_,_,_⟩:=zkc8 hk y0 y1 y2 y3 y4 y5 y6 y7;obtain⟨_,_,_,_,_,_,_⟩:=zkc7 hk y8 y9 y10 y11 y12 i0 i1;go_simp;try with_reducible rfl)
     refine zN (zO 4 (fun K hK=>?_));go_simp;refine (ui t s q 1 ct ts tq lp lc lg lv _ Au mu cu _).mono ?_;rintro e w3 ⟨rfl,hx3⟩;have kS2:ab w2 w3:=kS.trans hx3;clear hx3;refine hK.out _ _ (fun _=>kS2) ?_;clear hK K;try simp only[kA]
     have eL:∀W,(Op.equalIn 10000 37 (.agg #[B C s,B C q]) (.agg #[B C si,B C qi])).run prog W=.ok (decide (s=si/\q=qi)) W:=fun W=>jW _ _ _ _ W;have gL:=fC;by_cases h2:s=si/\q=qi
     ·rw[decide_eq_true h2]at eL;have H2:=zZ (HA.out.new HX.out (by rw[HS1.out];exact decide_eq_true h2) ha);clear h2;refine zS 2 [(6,29),(7,30)] kS2 ?_;iterate 2 refine zT ?_
      refine zN (zD ?_);clear eL gL;go_wp2_with fail;go_roundw
      case rel=>exact⟨k+1,k,d,rfl,rfl,by go_num,by omega,⟨⟨HE.out.ext kS2,H2.out,HN.out⟩⟩⟩
      case measure=>simp[intOf];omega
     ·rw[decide_eq_false h2]at eL;have H2:=zZ (HA.out.no HX.out (by rw[HS1.out];exact decide_eq_false h2));clear h2;refine zS 2 [(6,29),(7,30)] kS2 ?_;iterate 2 refine zT ?_
      refine zN (zD ?_);clear eL gL;go_wp2_with fail;go_roundw
      case rel=>exact⟨k+1,a,d,rfl,rfl,by go_num,by omega,⟨⟨HE.out.ext kS2,H2.out,HN.out⟩⟩⟩
      case measure=>simp[intOf];omega
    ·have hab:decide (a<0)=false:=decide_eq_false ha;have H2:=zZ (HA.out.old HX.out (by omega));go_upto_region 7 with (fail)
     refine zQ 99 fun wd kS=>?_;refine zS 8 [(0,23),(1,24),(2,25),(3,26),(4,27),(5,28),(6,29),(7,30)] kS ?_;iterate 3 refine zT ?_ (y:=by intro wk hk;have:=hk.cell y3;go_simp;try with_reducible rfl)
     iterate 4 (apply zK;exact⟨rfl,rfl⟩;simp only[kA];exact rfl)
     refine zT ?_ (y:=by intro wk hk;have:=hk.cell y3;go_simp;try with_reducible rfl);refine zN (zD ?_);go_wp2_with fail;go_roundw
     case rel=>exact⟨k+1,a,d,rfl,rfl,by go_num,by omega,⟨⟨HE.out.ext kS,H2.out,HN.out⟩⟩⟩
     case measure=>simp[intOf];omega
   have h1b:(kd==1)=false:=beq_eq_false_iff_ne.2 h1;have HN:=zZ (HA.out.no HX.out (by rw[HS.out,decide_eq_false h1];rfl));have eL:∀W,(Op.equalIn 10000 37 (.agg #[B C ts,B C tq]) (.agg #[B C si,B C qi])).run prog W=.ok (decide (ts=si/\tq=qi)) W:=fun W=>jW _ _ _ _ W;have gL:=fC;replace h1:=zZ h1;clear HS HA;by_cases hk2:kd=2
   ·have h2b:(kd==2)=true:=by rw[hk2];rfl
    by_cases h2:ts=si/\tq=qi
    ·rw[decide_eq_true h2]at eL;have H2:=zZ (cV.put HX.out (by rw[HD.out,decide_eq_true h2];simp[hk2]));clear h2 HB hk2;go_wp2_with fail;go_roundw
     case rel=>exact⟨k+1,a,k,rfl,rfl,by go_num,by omega,⟨⟨HE.out,HN.out,H2.out⟩⟩⟩
     case measure=>simp[intOf];omega
    ·rw[decide_eq_false h2]at eL;have H2:=zZ (HB.out.no HX.out (by rw[HD.out,decide_eq_false h2];simp));clear h2 HB hk2;go_wp2_with fail;go_roundw
     case rel=>exact⟨k+1,a,d,rfl,rfl,by go_num,by omega,⟨⟨HE.out,HN.out,H2.out⟩⟩⟩
     case measure=>simp[intOf];omega
   have h2b:(kd==2)=false:=beq_eq_false_iff_ne.2 hk2;by_cases hk3:kd=3
   ·have h3b:(kd==3)=true:=by rw[hk3];rfl
    replace hk2:=zZ hk2;by_cases h2:ts=si/\tq=qi
    ·rw[decide_eq_true h2]at eL;have H2:=zZ (cV.put HX.out (by rw[HD.out,decide_eq_true h2];simp[hk3]));clear h2 HB hk3;go_wp2_with fail;go_roundw
     case rel=>exact⟨k+1,a,k,rfl,rfl,by go_num,by omega,⟨⟨HE.out,HN.out,H2.out⟩⟩⟩
     case measure=>simp[intOf];omega
    ·rw[decide_eq_false h2]at eL;have H2:=zZ (HB.out.no HX.out (by rw[HD.out,decide_eq_false h2];simp));clear h2 HB hk3;go_wp2_with fail;go_roundw
     case rel=>exact⟨k+1,a,d,rfl,rfl,by go_num,by omega,⟨⟨HE.out,HN.out,H2.out⟩⟩⟩
     case measure=>simp[intOf];omega
   have h3b:(kd==3)=false:=beq_eq_false_iff_ne.2 hk3;have H2:=zZ (HB.out.no HX.out (by rw[HD.out,decide_eq_false hk2,decide_eq_false hk3];rfl));clear hk2 hk3 HB eL gL;go_wp2_with fail;go_roundw
   case rel=>exact⟨k+1,a,d,rfl,rfl,by go_num,by omega,⟨⟨HE.out,HN.out,H2.out⟩⟩⟩
   case measure=>simp[intOf];omega
  ·obtain rfl:n=k:=by omega
   have HA:=HR.out.2.1;have HB:=HR.out.2.2;rw[<-HL.out]at HA HB;have HF2:Bx (aA w wr [(w.heap.size,#[B C si,B C qi],37),(w.heap.size+1,#[B C 0,B C 0,B C 0,B C 0],39)]):=⟨HR.out.1⟩
   clear HR;rcases By HA HB with ⟨ha,he⟩|⟨j,c0,ha,hj,h⟩
   ·have HE:=zZ he;subst ha;clear HA HB he;obtain⟨z0,z1,z2,z3⟩:=(HF2.out.at_ 1 rfl).p4 rfl;have f0:=(HF2.out.at_ 1 rfl).froz;have f1:=f0;have f2:=f0;have f3:=f0;go_wp2_with fail;have h9:=HF2.out.setAll 1 rfl [B C 0,B C 0,B C 0,B C 0] rfl;refine bodyPost_ret (v:=.tuple #[.agg #[B C 0,B C 0,B C 0,B C 0],B C 4]) (by simp[results,results31,go_sem,z0,z1,z2,z3]) rfl ⟨0,0,0,0,4,rfl,HE.out,h9.xt⟩
   ·have hjn:j<n:=by have:=(zY.1 hj).1;have:=HL.out;omega
    subst ha;clear HA HB;obtain⟨b,off,_,_,rfl,-⟩:=HV.out.at_ hjn;rcases h with ⟨hd,he⟩|⟨i,e0,hd,hi,he⟩
    ·subst hd;obtain⟨t,s,q,kd,ct,ts,tq,lp,lc,lg,lv,str,ch,Au,mu,cu,HX,hcs,-,-⟩:=au.read HV.out HF2.out.xt.xt hjn;have hcc:=HX.out;rw[hj]at hcc;injection hcc with hcc;subst hcc;have HE:=zZ he;have c4:=hcs.c4;clear he hj hcs HX;go_wp2_with fail;refine (Gl (ba str) _ (HT.out.ext HF2.out.xt)).mono ?_;rintro e w2 ⟨rp,rc,rg,rv,rn,rk,rfl,hrf,-,-,-,-,-,-,hx2⟩;rw[JR]at hrf;have HF3:=bx (HF2.out.ext hx2);clear hx2 c4 HF2;obtain⟨z0,z1,z2,z3⟩:=(HF3.out.at_ 1 rfl).p4 rfl;have f0:=(HF3.out.at_ 1 rfl).froz;have f1:=f0;have f2:=f0;have f3:=f0;go_upto_region 21 with (fail)
     obtain⟨w4,hw4⟩:=nm ((be w2 (w.heap.size+1) 0 [B C rp,B C rc,B C rg,B C rv]):World);have HF4:Bx (aA w w4 [(w.heap.size,#[B C si,B C qi],37),(w.heap.size+1,#[B C rp,B C rc,B C rg,B C rv],39)]):=⟨by rw[hw4];exact HF3.out.setAll 1 rfl [B C rp,B C rc,B C rg,B C rv] rfl⟩
     simp only[be,Nat.reduceAdd,yV]at hw4;rw[<-hw4];clear hw4 HF3 z0 z1 z2 z3 f0 f1 f2 f3;obtain⟨z0,z1,z2,z3⟩:=(HF4.out.at_ 1 rfl).p4 rfl;have f0:=(HF4.out.at_ 1 rfl).froz;have f1:=f0;have f2:=f0;have f3:=f0;by_cases hk0:rk=0
     ·subst hk0;have HO:=zZ (mA hrf);clear hrf;go_wp2_with fail;have h9:=HF4.out.setAll 1 rfl [B C rp,B C rc,B C rg,B C rv] rfl;refine bodyPost_ret (v:=.tuple #[.agg #[B C rp,B C rc,B C rg,B C rv],B C 0]) (by simp[results,results31,go_sem,z0,z1,z2,z3]) rfl ⟨rp,rc,rg,rv,0,rfl,by rw[HE.out,HO.out],h9.xt⟩
     ·have HO:=zZ (mJ hrf hk0);have hkb:(rk != 0)=true:=by simp[hk0]
      replace hk0:=zZ hk0;clear hrf;go_wp2_with fail;have h9:=HF4.out.setAll 1 rfl [B C 0,B C 0,B C 0,B C 0] rfl;refine bodyPost_ret (v:=.tuple #[.agg #[B C 0,B C 0,B C 0,B C 0],B C 4]) (by simp[results,results31,go_sem,z0,z1,z2,z3]) rfl ⟨0,0,0,0,4,rfl,by rw[HE.out,HO.out];rfl,h9.xt⟩
    ·subst hd;have hin:i<n:=by have:=(zY.1 hi).1;have:=HL.out;omega
     obtain⟨t,s,q,kd,ct,ts,tq,lp,lc,lg,lv,str,ch,Au,mu,cu,HX,hcs,-,-⟩:=au.read HV.out HF2.out.xt.xt hin;have hcc:=HX.out;rw[hi]at hcc;injection hcc with hcc;subst hcc;have c3:=hcs.c3;have c9:=hcs.c9;have c10:=hcs.c10;have c11:=hcs.c11;have c12:=hcs.c12;obtain⟨z0,z1,z2,z3⟩:=(HF2.out.at_ 1 rfl).p4 rfl;have f0:=(HF2.out.at_ 1 rfl).froz;have f1:=f0;have f2:=f0;have f3:=f0;simp only at he;by_cases hk3:kd=3
     ·rw[if_pos hk3]at he;have HE:=zZ he;have hkb:(kd==3)=true:=by rw[hk3];rfl
      replace hk3:=zZ hk3;clear he hi hj hcs HX;go_wp2_with fail;have h9:=HF2.out.setAll 1 rfl [B C 0,B C 0,B C 0,B C 0] rfl;refine bodyPost_ret (v:=.tuple #[.agg #[B C 0,B C 0,B C 0,B C 0],B C 6]) (by simp[results,results31,go_sem,z0,z1,z2,z3]) rfl ⟨0,0,0,0,6,rfl,HE.out,h9.xt⟩
     ·rw[if_neg hk3]at he;have HE:=zZ he;have hkb:(kd==3)=false:=beq_eq_false_iff_ne.2 hk3;replace hk3:=zZ hk3;clear he hi hj hcs HX;go_wp2_with fail;have h9:=HF2.out.setAll 1 rfl [B C lp,B C lc,B C lg,B C lv] rfl;refine bodyPost_ret (v:=.tuple #[.agg #[B C lp,B C lc,B C lg,B C lv],B C 0]) (by simp[results,results31,go_sem,z0,z1,z2,z3]) rfl ⟨lp,lc,lg,lv,0,rfl,HE.out,h9.xt⟩
def GC(l:List aj)(j:Nat)(c:aj):Prop:=∀(i:Nat) d,i<j->l[i]?=some d->d.st≠c.st
def iA(l:List aj)(k:Nat)(M:Value->Option Value):Prop:=∀x v,M x=some v↔∃(j:Nat) (c:aj),j<k/\l[j]?=some c/\x=zx c.st/\v=B C (j:Int)/\GC l j c
def JE(l:List aj)(k:Nat)(ss:List bN):Prop:=ss.length=l.length/\∀(i:Nat) a,i<k->l[i]?=some a->ss[i]?=some a.st
def pf(l:List aj)(k:Nat)(cs:List Int):Prop:=cs.length=l.length/\(∀(i:Nat) (a:aj),i<k->l[i]?=some a->∃(c:Nat) (b:aj),c<=i/\l[c]?=some b/\b.st=a.st/\GC l c a/\cs[i]?=some (if b=a then 0 else 1))/\∀i,k<=i->i<l.length->cs[i]?=some 0
section
variable {l:List aj} {k j:Nat} {M:Value->Option Value} {c b:aj} {ss:List bN} {cs:List Int}
theorem iA.zero(l:List aj):iA l 0 (fun _=>none):=fun x v=>⟨fun h=>(nomatch h),fun⟨_,_,h,_⟩=>absurd h (Nat.not_lt_zero _)⟩
theorem iA.there(h:iA l k M)(hc:l[k]?=some c)(hm:M (zx c.st)=some v):∃(j:Nat) (b:aj),v=B C (j:Int)/\j<k/\l[j]?=some b/\b.st=c.st/\GC l j c:=by obtain⟨j,b,h1,h2,h3,h4,h5⟩:=(h _ _).1 hm;have e:=Dv.1 h3;exact⟨j,b,h4,h1,h2,e.symm,fun i d hi hd=>by rw[e];exact h5 i d hi hd⟩
theorem iA.none_(h:iA l k M)(hm:M (zx c.st)=none):GC l k c:=by
 intro i d hi hd e;obtain⟨m,hm1,hm2⟩:∃m,m<=i/\(∃b,l[m]?=some b/\b.st=c.st/\GC l m c):=by
  have:∀n i,i<=n->∀d,l[i]?=some d->d.st=c.st->∃m,m<=i/\∃b,l[m]?=some b/\b.st=c.st/\GC l m c:=by
   intro n;induction n with
   |zero =>
    intro i hi d hd e;obtain rfl:i=0:=by omega
    exact⟨0,zX _,d,hd,e,fun q _ hq=>by omega⟩
   |succ n ih =>
    intro i hi d hd e;by_cases hf:GC l i c
    ·exact⟨i,zX _,d,hd,e,hf⟩
    ·unfold GC at hf;have⟨q,hq⟩:=Classical.not_forall.1 hf;have⟨d',hd'⟩:=Classical.not_forall.1 hq;have⟨h1,h2⟩:=Classical.not_imp.1 hd';have⟨h3,h4⟩:=Classical.not_imp.1 h2;obtain⟨m,m1,m2⟩:=ih q (by omega) d' h3 (Classical.not_not.1 h4);exact⟨m,by omega,m2⟩
  exact this i i (zX _) d hd e
 obtain⟨b,b1,b2,b3⟩:=hm2;have:=(h (zx c.st) (B C (m:Int))).2 ⟨m,b,by omega,b1,by rw[b2],rfl,fun q d hq hd=>by rw[b2];exact b3 q d hq hd⟩;rw[hm]at this;cases this
theorem iA.skip(h:iA l k M)(hc:l[k]?=some c)(hm:M (zx c.st)=some v):iA l (k+1) M:=by
 obtain⟨j,b,-,h1,h2,h3,-⟩:=h.there hc hm;intro x v;rw[h x v];constructor
 ·rintro⟨i,a,ha,r⟩;exact⟨i,a,by omega,r⟩
 ·rintro⟨i,a,ha,h4,h5,h6,h7⟩;refine⟨i,a,?_,h4,h5,h6,h7⟩;rcases zU i k with hlt|hge
  ·exact hlt
  ·obtain rfl:i=k:=by omega
   rw[hc]at h4;injection h4 with h4;subst h4
   exact absurd h3 (h7 j b h1 h2)
theorem iA.put(h:iA l k M)(hc:l[k]?=some c)(hm:M (zx c.st)=none):iA l (k+1) (Be M (zx c.st) (B C (k:Int))):=by
 have hf:=h.none_ hm;intro x v;by_cases e:x=zx c.st
 ·subst e;rw[po];constructor
  ·intro h';injection h' with h';exact⟨k,c,by omega,hc,rfl,h'.symm,hf⟩
  ·rintro⟨i,a,ha,h4,h5,h6,h7⟩;rcases zU i k with hlt|hge
   ·exact absurd (Dv.1 h5).symm (hf i a hlt h4)
   ·obtain rfl:i=k:=by omega
    rw[h6]
 ·rw[vj e,h x v];constructor
  ·rintro⟨i,a,ha,r⟩;exact⟨i,a,by omega,r⟩
  ·rintro⟨i,a,ha,h4,h5,h6,h7⟩;refine⟨i,a,?_,h4,h5,h6,h7⟩;rcases zU i k with hlt|hge
   ·exact hlt
   ·obtain rfl:i=k:=by omega
    rw[hc]at h4;injection h4 with h4;subst h4
    exact absurd h5 e
theorem JE.zero(l:List aj)(z:bN):JE l 0 (List.replicate l.length z):=⟨by simp,fun i a hi=>by omega⟩
theorem JE.put(h:JE l k ss)(hc:l[k]?=some c):JE l (k+1) (ss.set k c.st):=by
 have hk:=(zY.1 hc).1;refine⟨by rw[yF];exact h.1,fun i a hi ha=>?_⟩;rw[yD];by_cases e:k=i
 ·subst e;rw[if_pos rfl,if_pos (by have:=h.1;omega)];rw[hc]at ha;injection ha with ha;rw[ha]
 ·rw[if_neg e];exact h.2 i a (by omega) ha
theorem JE.all(h:JE l l.length ss):ss=l.map aj.st:=by
 apply xW;intro i;by_cases hi:i<l.length
 ·rw[h.2 i _ hi (zV hi),zP,zV hi];rfl
 ·rw[zC (by have:=h.1;omega),zC (by simp;omega)]
theorem pf.zero(l:List aj):pf l 0 (List.replicate l.length 0):=⟨by simp,fun i a hi=>by omega,fun i _ hi=>by simp[hi]⟩
theorem pf.keep(h:pf l k cs)(hc:l[k]?=some c)(hj:j<=k)(hb:l[j]?=some b)(hs:b.st=c.st)(hf:GC l j c)(he:b=c):pf l (k+1) cs:=by
 have hk:=(zY.1 hc).1;refine⟨h.1,fun i a hi ha=>?_,fun i hi=>h.2.2 i (by omega)⟩;rcases zU i k with hlt|hge
 ·exact h.2.1 i a hlt ha
 ·obtain rfl:i=k:=by omega
  rw[hc]at ha;injection ha with ha;subst ha
  exact⟨j,b,hj,hb,hs,hf,by rw[if_pos he];exact h.2.2 i (zX _) hk⟩
theorem pf.put(h:pf l k cs)(hc:l[k]?=some c)(hj:j<=k)(hb:l[j]?=some b)(hs:b.st=c.st)(hf:GC l j c)(he:b≠c):pf l (k+1) (cs.set k 1):=by
 have hk:=(zY.1 hc).1;refine⟨by rw[yF];exact h.1,fun i a hi ha=>?_,fun i hi hil=>?_⟩
 ·rcases zU i k with hlt|hge
  ·obtain⟨c',b',r1,r2,r3,r4,r5⟩:=h.2.1 i a hlt ha;exact⟨c',b',r1,r2,r3,r4,by rw[yD,if_neg (by omega)];exact r5⟩
  ·obtain rfl:i=k:=by omega
   rw[hc]at ha;injection ha with ha;subst ha
   exact⟨j,b,hj,hb,hs,hf,by rw[if_neg he,yD,if_pos rfl,if_pos (by have:=h.1;omega)]⟩
 ·rw[yD,if_neg (by omega)];exact h.2.2 i (by omega) hil
theorem pf.all(h:pf l l.length cs):Df l cs:=⟨h.1,fun i a ha=>by obtain⟨c,b,r1,r2,r3,r4,r5⟩:=h.2.1 i a (zY.1 ha).1 ha;exact⟨c,b,r1,r2,r3,fun j d hj hd=>r4 j d hj hd,r5⟩⟩
end
theorem Tryz.infoStm:(prog.info? 35).map (fun i=>(i.zero,i.size,i.bytes))=some (some (.agg #[B C 0,B C 0,B C 0]),3,24):=by kernel_rfl
theorem EP(n:Nat)(hn:n<=1000)(w:World):(Instr.makeSlice 168 (B C (n:Int)) (B C (n:Int))).run prog w=.ok (D (some ⟨w.heap.size,0,none⟩) n n) (w.alloc (.cells (madeCells #[B C 0,B C 0,B C 0] (n*3)) 35)):=by obtain⟨i,hi,h0,h1,h2⟩:=info_parts Tryz.infoStm;have h:=run_make (P:=prog) w 168 35 i _ underlying168 hi h0 .i64 .i64 n n (by omega) (Int.le_refl _) (by rw[h2];omega) (by omega);rw[yC,h1]at h;exact h
theorem EZ(n:Nat)(hn:n<=1000)(w:World):(Instr.makeSlice 22 (B C (n:Int)) (B C (n:Int))).run prog w=.ok (D (some ⟨w.heap.size,0,none⟩) n n) (w.alloc (.cells (madeCells #[B C 0] n) 3)) :=
 run_make_row' 22 3 (B C 0) 8 underlying22 Tryz.infoI rfl .i64 .i64 n (by omega) (by omega) w
structure im (l:List aj) (w wr:World) (b1 b2 b3 n ks k:Nat) (ss:List bN) (cs:List Int) (M:Value->Option Value):Prop where
 x:ab w wr
 st:ah b1 35 3 (oT w) wr (D (some ⟨b1,0,none⟩) n n) ss
 cl:wr.ownsRow b2 3 1 (D (some ⟨b2,0,none⟩) n n) n (cs.map (Value.int .i64))
 mp:eJ prog 35 wr b3 M
 sk:JE l ks ss
 ck:pf l k cs
 mo:iA l k M
 g1:w.heap.size<=b1
 g2:b1<b2
 g3:b2<b3
section
variable {l:List aj} {w wr w':World} {b1 b2 b3 n ks k:Nat} {ss:List bN} {cs:List Int} {M:Value->Option Value}
theorem im.ext(h:im l w wr b1 b2 b3 n ks k ss cs M)(x:ab wr w'):im l w w' b1 b2 b3 n ks k ss cs M :=
 ⟨h.x.trans x,h.st.ext x,ao h.cl x,h.mp.ext x,h.sk,h.ck,h.mo,h.g1,h.g2,h.g3⟩
theorem im.lt(h:im l w wr b1 b2 b3 n ks k ss cs M):b3<wr.heap.size:=h.mp.lt
theorem im.stamp(h:im l w wr b1 b2 b3 n k k ss cs M){c:aj}(hc:l[k]?=some c)(hk:k<n)(hw:c.st.wf):im l w (be wr b1 (k*3) c.st.cells) b1 b2 b3 n (k+1) k (ss.set k c.st) cs M:=by have hg:=ez b1 c.st.cells wr (k*3);have h1:=h.g2;have h2:=h.g3;exact⟨h.x.grown hg (fun kk e=>by injection e with e;have:=h.g1;omega),h.st.putAll hk _ rfl ⟨rfl,hw⟩,h.cl.kept hg (.inr (fun e=>by simp only[Value.ownBlock]at e;injection e with e;omega)),h.mp.grown hg (fun e=>by injection e with e;omega),h.sk.put hc,h.ck,h.mo,h.g1,h.g2,h.g3⟩
theorem im.cls(h:im l w wr b1 b2 b3 n ks k ss cs M)(hk:k<n)(hc:pf l (k+1) (cs.set k 1))(hm:iA l (k+1) M):im l w (wr.setCell ⟨b2,k,none⟩ (B C 1)) b1 b2 b3 n ks (k+1) ss (cs.set k 1) M:=by
 have hg:wr.grownBy (wr.setCell ⟨b2,k,none⟩ (B C 1)) (some b2):=⟨rfl,rfl,rfl,by simp[World.setCell],fun kk _ hne=>yP _ _ _ _ (fun e=>hne (by rw[e]))⟩
 have h1:=h.g2;have h2:=h.g3;exact⟨h.x.grown hg (fun kk e=>by injection e with e;have:=h.g1;omega),h.st.grown hg (.inr (fun e=>by simp only[Value.ownBlock]at e;injection e with e;omega)),AR h.cl hk,h.mp.grown hg (fun e=>by injection e with e;omega),h.sk,hc,hm,h.g1,h.g2,h.g3⟩
end
theorem KP{l:List aj}{cs:List Int}(h:Df l cs):∀x∈cs,aU x:=by intro x hx;obtain⟨i,hi⟩:=zH hx;have hil:=(zY.1 hi).1;obtain⟨c,b,-,-,-,-,h5⟩:=h.2 i _ (zV (by have:=h.1;omega));rw[hi]at h5;injection h5 with h5;subst h5;split<;>constructor<;>omega
def GQ(l:List aj)(base:Nat)(v:Value)(w':World):Prop:=∃(b1 b2 n:Nat) (cs:List Int),v=.tuple #[D (some ⟨b1,0,none⟩) n n,D (some ⟨b2,0,none⟩) n n]/\n=l.length/\oI base w' (D (some ⟨b1,0,none⟩) n n) (l.map aj.st)/\ak base w' (D (some ⟨b2,0,none⟩) n n) cs/\Df l cs
theorem IZ:bN.wf ⟨0,0,0⟩:=⟨⟨by decide,by decide⟩,⟨by decide,by decide⟩,⟨by decide,by decide⟩⟩
theorem CY(v:Value)(l:List aj)(w:World)(hv:au p w v l)(hl:l.length<=300)(hw0:0<w.heap.size) :
  Calls prog 97 #[v,.func (.func 62) #[] #[],.func (.func 63) #[] #[]] w fun e w'=>(∃vo,e=.returned vo/\GQ l 0 vo w')/\ab w w':=by
 obtain⟨A,n,c,rfl,hnc,hcc,hnn,HL⟩:=hv.open_;have HV:Bx (au p w (D A n c) l):=⟨hv⟩
 have hn1:n<=300:=by have:=HL.out;omega
 clear hv hl;have hm1:=fun W=>EP n (by omega) W;have hm2:=fun W=>EZ n (by omega) W;have hmm:=@run_makeMap prog;go_enter func97,ntmps97
 go_upto_region 4 with (fail)
 clear hm1 hm2 hmm;obtain⟨b1,hb1⟩:=nm w.heap.size;obtain⟨w1,hw1⟩:=nm (w.alloc (.cells (madeCells #[B C 0,B C 0,B C 0] (n*3)) 35));obtain⟨b2,hb2⟩:=nm w1.heap.size;obtain⟨w2,hw2⟩:=nm (w1.alloc (.cells (madeCells #[B C 0] n) 3));obtain⟨b3,hb3⟩:=nm w2.heap.size;obtain⟨w3,hw3⟩:=nm (w2.alloc (.map #[] 0));have s1:w1.heap.size=w.heap.size+1:=by rw[hw1];simp
 have s2:w2.heap.size=w1.heap.size+1:=by rw[hw2];simp
 have e2:w.heap.size+1=b2:=by omega
 have e3:b2+1=b3:=by omega
 have HS:Bx (im l w w3 b1 b2 b3 n 0 0 (List.replicate l.length ⟨0,0,0⟩) (List.replicate l.length 0) (fun _=>none)):=⟨by
  have x1:ab w w1:=by rw[hw1];exact (zE _).alloc _
  have x2:ab w1 w2:=by rw[hw2];exact (zE _).alloc _
  have x3:ab w2 w3:=by rw[hw3];exact (zE _).alloc _
  have o1:=ah.made (e:=35) (R:=oT w) w [B C 0,B C 0,B C 0] ⟨0,0,0⟩ n (by decide) (by omega) ⟨rfl,IZ⟩;have o2:=Bt (e:=3) w1 [B C 0] n (by decide) (by omega);simp only[xQ,List.length_nil,yV,Nat.reduceAdd,wH]at o1 o2;refine⟨(x1.trans x2).trans x3,?_,?_,?_,JE.zero l _,pf.zero l,iA.zero l,by omega,by omega,by omega⟩
  ·rw[HL.out,hb1];rw[<-hw1]at o1;exact (o1.ext x2).ext x3
  ·rw[HL.out,hb2];rw[<-hw2]at o2;have:=ao o2 x3;simpa using this
  ·rw[hb3,hw3];exact eJ.made _ _ _⟩
 rw[e2,e3,<-hb1];rw[<-hw1,<-hw2,<-hw3];clear hw1 hw2 hw3 hb1 hb2 hb3 s1 s2 e2 e3;go_wp2_with fail;go_loopw [24] (fun s24 wr=>∃(k:Nat) (ss:List bN) (cs:List Int) (M:Value->Option Value),s24=B C k/\k<=n/\Bx (im l w wr b1 b2 b3 n k k ss cs M)) (fun k _=>n-(intOf k).toNat)
 case atStart=>exact⟨0,_,_,_,rfl,by omega,HS⟩
 case round =>
  obtain⟨k,ss,cs,M,rfl,hk,HR⟩:=hrel;clear HS;by_cases hkn:k<n
  ·obtain⟨b,off,_,_,rfl,-⟩:=HV.out.at_ hkn;obtain⟨t,s,q,kd,ct,ts,tq,lp,lc,lg,lv,str,ch,Au,mu,cu,HX,hcs,hI,hwf⟩:=au.read HV.out (XT.refl p w) hkn;replace hcs:=hcs.ext HR.out.x;obtain⟨c0,c1,c2,c3,c4,c5,c6,c7,c8,c9,c10,c11,c12⟩:=hcs;have HI:Bx (ak p w (D Au mu cu) ch):=⟨hI⟩
   have HW:Bx (bN.wf ⟨t,s,q⟩):=⟨hwf.1⟩
   clear hI hwf;go_upto_region 7 with (fail)
   obtain⟨g,hg⟩:=nm wr.heap.size;obtain⟨w4,hw4⟩:=nm ((wr.alloc (.cells #[B C t,B C s,B C q,B C kd,.string (ba str),B C ct,D Au mu cu,B C ts,B C tq,B C lp,B C lc,B C lg,B C lv] 41)):World);have hX4:ab wr w4:=by rw[hw4];exact (zE _).alloc _
   have HS4:=zZ (HR.out.ext hX4);have HX4:=zZ hX4;have hB4:Bk w4 g #[B C t,B C s,B C q,B C kd,.string (ba str),B C ct,D Au mu cu,B C ts,B C tq,B C lp,B C lc,B C lg,B C lv] 41:=by rw[hw4,hg];exact Bk.new _ _ _
   have hgl:b3<g:=by rw[hg];exact HR.out.lt
   rw[<-hw4,<-hg];clear hw4 hg HR c0 c1 c2 c3 c4 c5 c6 c7 c8 c9 c10 c11 c12 hX4;obtain⟨y0,y1,y2,y3,y4,y5,y6,y7,y8,y9,y10,y11,y12⟩:=(hB4).p13 rfl;have HB4:=zZ hB4;clear hB4;go_upto_region 8 with (go_at_call 62;refine (Ih t s q kd ct ts tq lp lc lg lv _ Au mu cu _).mono ?_;rintro e w5 ⟨rfl,hx5⟩;obtain⟨cs0,x00,-,⟨rfl,-⟩,-,hcl,hfz⟩:=(HS4.out.ext hx5).st.cellsAt hkn;have z0:=hcl 0 _ rfl;have z1:=hcl 1 _ rfl;have z2:=hcl 2 _ rfl;have f0:=hfz (k*3);have f1:=hfz (k*3+1);have f2:=hfz (k*3+2);rw[yQ]at z0;have HX5:=zZ hx5;clear hcl hfz hx5)
   have hS6:=(HS4.out.ext HX5.out).stamp HX.out hkn HW.out;have hB6:=(HB4.out.ext HX5.out).grown (ez b1 (bN.cells ⟨t,s,q⟩) w5 (k*3)) (fun e=>by injection e with e;have:=HS4.out.g2;have:=HS4.out.g3;omega);obtain⟨w6,hw6⟩:=nm (be w5 b1 (k*3) (bN.cells ⟨t,s,q⟩));simp only at hS6;rw[<-hw6]at hS6 hB6;simp only[bN.cells,be,wC,Nat.reduceAdd]at hw6;rw[<-hw6];have HS6:=zZ hS6;have HB6:=zZ hB6;obtain⟨cs0,x0,-,⟨rfl,-⟩,hx0,hcl,-⟩:=hS6.st.cellsAt hkn;obtain rfl:x0=⟨t,s,q⟩:=by
    have:=hx0.out;rw[yD,if_pos rfl]at this;split at this
    ·injection this with this;exact this.symm
    ·cases this
   have z0:=hcl 0 _ rfl;have z1:=hcl 1 _ rfl;have z2:=hcl 2 _ rfl;rw[yQ]at z0;obtain⟨kl,hkl⟩:=EH HW.out;have hlk:=(hS6.mp.look ti underlying205 (zeroValue3 w6) hkl).2;clear hx0 hcl hw6 hS6 hB6 HX5 HS4 y0 y1 y2 y3 y4 y5 y6 y7 y8 y9 y10 y11 y12;cases hM:M (zx ⟨t,s,q⟩) with
   |none =>
    rw[hM]at hlk;simp only[Option.getD_none,Option.isSome_none,zx]at hlk;have HF:=zZ (HS6.out.mo.none_ (c:=⟨⟨t,s,q⟩,kd,str,ct,ch,⟨ts,tq⟩,⟨lp,lc,lg,lv⟩⟩) hM);have HMN:=zZ hM;clear hM;go_upto_region 10 with (fail)
    clear hlk;go_wp2_with (at_mapUpdate;refine ul _ rfl (.tmp 46) (.tmp 50) (.tmp 51) 205 rfl 35 3 ti underlying205 b3 M rfl HS6.out.mp _ _ kl rfl rfl hkl ?_;intro w7 hm7 hg7);have HS7:Bx (im l w w7 b1 b2 b3 n (k+1) (k+1) (ss.set k ⟨t,s,q⟩) cs (Be M (zx ⟨t,s,q⟩) (B C (k:Int)))):=⟨by have h:=HS6.out;have h1:=h.g1;have h2:=h.g2;have h3:=h.g3;exact⟨h.x.grown hg7 (fun kk e=>by injection e with e;omega),h.st.grown hg7 (.inr (fun e=>by simp only[Value.ownBlock]at e;injection e with e;omega)),h.cl.kept hg7 (.inr (fun e=>by simp only[Value.ownBlock]at e;injection e with e;omega)),hm7,h.sk,h.ck.keep HX.out (zX _) HX.out rfl HF.out rfl,h.mo.put (c:=⟨⟨t,s,q⟩,kd,str,ct,ch,⟨ts,tq⟩,⟨lp,lc,lg,lv⟩⟩) HX.out HMN.out,h.g1,h.g2,h.g3⟩⟩
    clear hm7 hg7 z0 z1 z2;go_wp2_with fail;go_roundw
    case rel=>exact⟨k+1,_,_,_,by go_num,by omega,HS7⟩
    case measure=>simp[intOf];omega
   |some v =>
    obtain⟨j,bc,rfl,hj,hbj,hst,hfst⟩:=HS6.out.mo.there (c:=⟨⟨t,s,q⟩,kd,str,ct,ch,⟨ts,tq⟩,⟨lp,lc,lg,lv⟩⟩) HX.out hM;rw[hM]at hlk;simp only[Option.getD_some,Option.isSome_some,zx]at hlk;have HMO:=zZ (HS6.out.mo.skip (c:=⟨⟨t,s,q⟩,kd,str,ct,ch,⟨ts,tq⟩,⟨lp,lc,lg,lv⟩⟩) HX.out hM);clear hM;obtain⟨t',s',q',kd',ct',ts',tq',lp',lc',lg',lv',str',ch',Au',mu',cu',HXj,hcs,hIj,-⟩:=au.read HV.out HS6.out.x.xt (show j<n by omega);obtain rfl:bc=⟨⟨t',s',q'⟩,kd',str',ct',ch',⟨ts',tq'⟩,⟨lp',lc',lg',lv'⟩⟩:=by have:=HXj.out;rw[hbj]at this;injection this
    obtain⟨c0,c1,c2,c3,c4,c5,c6,c7,c8,c9,c10,c11,c12⟩:=hcs;have HBJ:Bx (GC l j ⟨⟨t,s,q⟩,kd,str,ct,ch,⟨ts,tq⟩,⟨lp,lc,lg,lv⟩⟩/\(⟨t',s',q'⟩:bN)=⟨t,s,q⟩):=⟨⟨hfst,hst⟩⟩
    have HIJ:Bx (ak p w6 (D Au' mu' cu') ch'):=⟨hIj⟩
    obtain⟨y0,y1,y2,y3,y4,y5,y6,y7,y8,y9,y10,y11,y12⟩:=(HB6.out).p13 rfl;go_upto_region 11 with (fail)
    have hjn:j<n:=by omega
    clear hlk hst hfst z0 z1 z2 hkl hIj;have HBJ2:=zZ hbj;clear hbj;refine zQ 99 fun wd kS=>?_;refine zS 6 [(0,52),(1,53),(2,54),(3,55),(4,56),(5,57)] kS ?_;iterate 6 refine zT ?_ (y:=by intro wk hk;obtain⟨_,_,_,_,_,_,_,_⟩:=zkc8 hk c0 c1 c2 c3 c4 c5 c6 c7;obtain⟨_,_,_,_,_,_,_,_⟩:=zkc8 hk c8 c9 c10 c11 c12 y0 y1 y2;obtain⟨_,_,_,_,_,_,_,_⟩:=zkc8 hk y3 y4 y5 y6 y7 y8 y9 y10;obtain⟨_,_⟩:=zkc2 hk y11 y12;go_simp;try with_reducible rfl)
    refine zN (zO 6 (fun K hK=>?_));go_simp;refine (jq t' s' q' kd' ct' ts' tq' lp' lc' lg' lv' t s q kd ct ts tq lp lc lg lv str' str ch' ch Au' Au mu' cu' mu cu _ (HIJ.out.ext kS) (HI.out.ext (HS6.out.x.trans kS))).mono ?_;rintro e w7 ⟨rfl,hx7⟩;have kS2:ab w6 w7:=kS.trans hx7;clear hx7;refine hK.out _ _ (fun _=>kS2) ?_;clear hK K;try simp only[kA]
    by_cases he:(⟨⟨t',s',q'⟩,kd',str',ct',ch',⟨ts',tq'⟩,⟨lp',lc',lg',lv'⟩⟩:aj)=⟨⟨t,s,q⟩,kd,str,ct,ch,⟨ts,tq⟩,⟨lp,lc,lg,lv⟩⟩
    ·have hd:decide ((⟨⟨t',s',q'⟩,kd',str',ct',ch',⟨ts',tq'⟩,⟨lp',lc',lg',lv'⟩⟩:aj)=⟨⟨t,s,q⟩,kd,str,ct,ch,⟨ts,tq⟩,⟨lp,lc,lg,lv⟩⟩)=true:=decide_eq_true he;have HE:=zZ he;rw[hd];clear hd he;refine zS 1 [(7,59)] kS2 ?_;refine zT ?_;refine zN (zD ?_);have HS7:Bx (im l w w7 b1 b2 b3 n (k+1) (k+1) (ss.set k ⟨t,s,q⟩) cs M):=⟨by
      have h:=HS6.out.ext kS2;exact⟨h.x,h.st,h.cl,h.mp,h.sk,h.ck.keep HX.out (by omega) HBJ2.out HBJ.out.2 HBJ.out.1 HE.out,HMO.out,h.g1,h.g2,h.g3⟩⟩
     clear kS2 c0 c1 c2 c3 c4 c5 c6 c7 c8 c9 c10 c11 c12 y0 y1 y2 y3 y4 y5 y6 y7 y8 y9 y10 y11 y12;go_wp2_with fail;go_roundw
     case rel=>exact⟨k+1,_,_,_,by go_num,by omega,HS7⟩
     case measure=>simp[intOf];omega
    ·have hd:decide ((⟨⟨t',s',q'⟩,kd',str',ct',ch',⟨ts',tq'⟩,⟨lp',lc',lg',lv'⟩⟩:aj)=⟨⟨t,s,q⟩,kd,str,ct,ch,⟨ts,tq⟩,⟨lp,lc,lg,lv⟩⟩)=false:=decide_eq_false he;have HE:=zZ he;rw[hd];clear hd he;refine zS 1 [(7,59)] kS2 ?_;refine zT ?_;refine zN (zD ?_);have hS7:=HS6.out.ext kS2;obtain⟨x,k0,k1⟩:=Cv hS7.cl hkn;have HS7:=zZ (hS7.cls hkn (hS7.ck.put HX.out (by omega) HBJ2.out HBJ.out.2 HBJ.out.1 HE.out) HMO.out);clear hS7 kS2 c0 c1 c2 c3 c4 c5 c6 c7 c8 c9 c10 c11 c12 y0 y1 y2 y3 y4 y5 y6 y7 y8 y9 y10 y11 y12;go_wp2_with fail;go_roundw
     case rel=>exact⟨k+1,_,_,_,by go_num,by omega,⟨HS7.out⟩⟩
     case measure=>simp[intOf];omega
  ·obtain rfl:n=k:=by omega
   have HE:Bx (GQ l 0 (.tuple #[D (some ⟨b1,0,none⟩) n n,D (some ⟨b2,0,none⟩) n n]) wr/\ab w wr):=⟨by
    have h:=HR.out;have h1:=h.g1;have h2:=h.g2;have hck:=h.ck;have hsk:=h.sk;rw[<-HL.out]at hck hsk;have hcw:=hck.all;refine⟨⟨b1,b2,n,cs,rfl,HL.out.symm,?_,?_,hcw⟩,h.x⟩
    ·rw[<-hsk.all];exact h.st.isS (by decide) (by omega) (fun _ _ h=>h)
    ·exact ak.of_own h.cl (by omega) (KP hcw) (by rw[hcw.1,HL.out];omega)⟩
   clear HR;go_wp2_with fail;exact bodyPost_ret (v:=.tuple #[D (some ⟨b1,0,none⟩) n n,D (some ⟨b2,0,none⟩) n n]) (by simp[results,results97,go_sem]) rfl ⟨⟨_,rfl,HE.out.1⟩,HE.out.2⟩
end Go.Proofs.YtpaidaphacoblaaGreatDoor

