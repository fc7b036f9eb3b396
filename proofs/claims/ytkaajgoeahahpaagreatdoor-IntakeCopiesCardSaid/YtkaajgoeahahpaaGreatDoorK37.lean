import Derived.Test.YtkaajgoeahahpaaGreatDoorK36
set_option linter.all false
set_option maxRecDepth 100000
set_option maxHeartbeats 0
namespace Go.Proofs.YtkaajgoeahahpaaGreatDoor
open Go.Value renaming int→B,slice→D
open Go.IntKind renaming i64→C
open Go.RowKit _root_.Go.Proofs.Tryz
variable {p:Nat}
theorem mT(t s q:Int)(w:World) :
  Calls prog 184 #[.agg #[B C t,B C s,B C q]] w fun e w'=>e=.returned (.bool (dT ⟨t,s,q⟩))/\ab w w':=by
 go_enter func184,ntmps184
 go_wp2
 all_goals (go_ret;exact⟨aa (by first|(simp[dT];omega)|(rw[yE];simp[dT];omega)),(zE _).alloc _⟩)
theorem Jn(x y z:Int)(w:World)(g:Nat)(hx:-1<=x/\x<=1)(hy:-1<=y/\y<=1)(hz:-1<=z/\z<=1)(h:Bk w g #[B C x,B C y,B C z] 3):Calls prog 74 #[D (some ⟨g,0,none⟩) 3 3] w fun e w'=>e=.returned (B C (([x,y,z].find? nz).getD 0))/\w=w':=by
 refine GS (p:=g+1) _ [x,y,z] w ⟨some ⟨g,0,none⟩,3,rfl,zX _,by decide,by simp,fun u hu=>?_,fun k u hu=>?_⟩
 ·simp only[yM,wL,or_false]at hu;rcases hu with rfl|rfl|rfl<;>constructor<;>omega
 ·match k,hu with
  |0,hu=>simp at hu;subst hu;exact⟨g,0,rfl,by omega,h.c 0 rfl⟩
  |1,hu=>simp at hu;subst hu;exact⟨g,0,rfl,by omega,h.c 1 rfl⟩
  |2,hu=>simp at hu;subst hu;exact⟨g,0,rfl,by omega,h.c 2 rfl⟩
  |k+3,hu=>simp at hu
theorem IC(a b:bN):(([bg a.t b.t,bg a.s b.s,bg a.q b.q]:List Int).find? nz).getD 0=me a b:=by
 unfold me nz;by_cases h:bg a.t b.t=0
 ·by_cases h2:bg a.s b.s=0
  ·by_cases h3:bg a.q b.q=0<;>simp[h,h2,h3]
  ·simp[h,h2]
 ·simp[h]
theorem Jj(a b c d:Int):-1<=eR a b c d/\eR a b c d<=1:=by rcases cT a b c d with ⟨_,h⟩|⟨_,h⟩|⟨_,h⟩<;>omega
theorem sE(t s q t' s' q':Int)(w:World) :
  Calls prog 186 #[.agg #[B C t,B C s,B C q],.agg #[B C t',B C s',B C q']] w fun e w'=>e=.returned (B C (eR s q s' q'))/\gN w w':=by
 go_enter func186,ntmps186
 go_upto_region 1 with (fail)
 obtain⟨w1,hw1⟩:=nm (((w.alloc (.cells #[B C t,B C s,B C q] 41)).alloc (.cells #[B C t',B C s',B C q'] 41)):World);have HF:Bx (aA w w1 [(w.heap.size,#[B C t,B C s,B C q],41),(w.heap.size+1,#[B C t',B C s',B C q'],41)]):=⟨by rw[hw1];exact ((aA.start w).push _ _ rfl).push _ _ (by simp)⟩
 have HL:Bx (gN w w1):=⟨by rw[hw1];exact ((gN.refl _).alloc _).alloc _⟩
 rw[<-hw1];clear hw1;obtain⟨a0,a1,a2⟩:=(HF.out.at_ 0 rfl).p3 rfl;obtain⟨b0,b1,b2⟩:=(HF.out.at_ 1 rfl).p3 rfl;refine zR 12 (fun w'=>gN w1 w') ?_;have kS:(fun w'=>gN w1 w') w1.drew:=(gN.refl _).drew;have kD:ab w1 w1.drew:=(zE _).drew;obtain⟨wd,hwd⟩:=nm (w1.drew:World);rw[<-hwd]at kS kD⊢;clear hwd;refine zS 8 [(0,5),(1,6),(2,7),(3,8),(5,10),(6,11),(7,12),(8,13)] kS ?_;iterate 8 refine zT ?_ (y:=by intro wk hk;(replace a0:=hk.ext.cell a0);(replace a1:=hk.ext.cell a1);(replace a2:=hk.ext.cell a2);(replace b0:=hk.ext.cell b0);(replace b1:=hk.ext.cell b1);(replace b2:=hk.ext.cell b2);go_simp;try with_reducible rfl)
 refine zN (zO 4 (fun K hK=>?_));go_simp;refine (fN s s' _).mono ?_;rintro e w2 ⟨rfl,rfl⟩;refine hK.out _ _ (fun _=>kS) ?_;clear hK K;try simp only[kA]
 refine zO 9 (fun K hK=>?_);go_simp;refine (fN q q' _).mono ?_;rintro e w2 ⟨rfl,rfl⟩;refine hK.out _ _ (fun _=>kS) ?_;clear hK K;try simp only[kA]
 refine zO 10 (fun K hK=>?_);go_simp;obtain⟨gb,hgb⟩:=nm wd.heap.size;obtain⟨w3,hw3⟩:=nm ((wd.alloc (.cells #[B C (bg s s'),B C (bg q q')] 3)):World);have HB:Bx (Bk w3 gb #[B C (bg s s'),B C (bg q q')] 3):=⟨by rw[hw3,hgb];exact Bk.new _ _ _⟩
 have kS3:gN w1 w3:=by rw[hw3];exact kS.alloc _
 rw[<-hw3,<-hgb];clear hw3 hgb;refine hK.out _ _ (fun _=>kS3) ?_;clear hK K;try simp only[kA]
 refine zO 11 (fun K hK=>?_);go_simp;refine (qd _ _ _ _ 2 (gC _ _) (gC _ _) HB.out).mono ?_;rintro e w2 ⟨rfl,rfl⟩;rw[uw];refine hK.out _ _ (fun _=>kS3) ?_;clear hK K;try simp only[kA]
 refine zO 12 (fun K hK=>?_);go_simp;refine hK.out _ _ (fun h=>absurd rfl h) ?_;clear hK K;refine zD ?_;go_wp2_with fail;go_ret
 exact⟨rfl,HL.out.trans kS3⟩
theorem Dh(t s q t' s' q':Int)(w:World) :
  Calls prog 138 #[.agg #[B C t,B C s,B C q],.agg #[B C t',B C s',B C q']] w fun e w'=>e=.returned (B C (me ⟨t,s,q⟩ ⟨t',s',q'⟩))/\gN w w':=by
 go_enter func138,ntmps138
 go_upto_region 1 with (fail)
 obtain⟨w1,hw1⟩:=nm (((w.alloc (.cells #[B C t,B C s,B C q] 41)).alloc (.cells #[B C t',B C s',B C q'] 41)):World);have HF:Bx (aA w w1 [(w.heap.size,#[B C t,B C s,B C q],41),(w.heap.size+1,#[B C t',B C s',B C q'],41)]):=⟨by rw[hw1];exact ((aA.start w).push _ _ rfl).push _ _ (by simp)⟩
 have HL:Bx (gN w w1):=⟨by rw[hw1];exact ((gN.refl _).alloc _).alloc _⟩
 rw[<-hw1];clear hw1;obtain⟨a0,a1,a2⟩:=(HF.out.at_ 0 rfl).p3 rfl;obtain⟨b0,b1,b2⟩:=(HF.out.at_ 1 rfl).p3 rfl;have hor:=IC ⟨t,s,q⟩ ⟨t',s',q'⟩;simp only at hor;have HOR:=zZ hor;clear hor;refine zR 17 (fun w'=>gN w1 w') ?_;have kS:(fun w'=>gN w1 w') w1.drew:=(gN.refl _).drew;have kD:ab w1 w1.drew:=(zE _).drew;obtain⟨wd,hwd⟩:=nm (w1.drew:World);rw[<-hwd]at kS kD⊢;clear hwd;refine zS 12 [(0,5),(1,6),(2,7),(3,8),(5,10),(6,11),(7,12),(8,13),(10,15),(11,16),(12,17),(13,18)] kS ?_;iterate 12 refine zT ?_ (y:=by intro wk hk;(replace a0:=hk.ext.cell a0);(replace a1:=hk.ext.cell a1);(replace a2:=hk.ext.cell a2);(replace b0:=hk.ext.cell b0);(replace b1:=hk.ext.cell b1);(replace b2:=hk.ext.cell b2);go_simp;try with_reducible rfl)
 refine zN (zO 4 (fun K hK=>?_));go_simp;refine (fN t t' _).mono ?_;rintro e w2 ⟨rfl,rfl⟩;refine hK.out _ _ (fun _=>kS) ?_;clear hK K;try simp only[kA]
 refine zO 9 (fun K hK=>?_);go_simp;refine (fN s s' _).mono ?_;rintro e w2 ⟨rfl,rfl⟩;refine hK.out _ _ (fun _=>kS) ?_;clear hK K;try simp only[kA]
 refine zO 14 (fun K hK=>?_);go_simp;refine (fN q q' _).mono ?_;rintro e w2 ⟨rfl,rfl⟩;refine hK.out _ _ (fun _=>kS) ?_;clear hK K;try simp only[kA]
 refine zO 15 (fun K hK=>?_);go_simp;obtain⟨gb,hgb⟩:=nm wd.heap.size;obtain⟨w3,hw3⟩:=nm ((wd.alloc (.cells #[B C (bg t t'),B C (bg s s'),B C (bg q q')] 3)):World);have HB:Bx (Bk w3 gb #[B C (bg t t'),B C (bg s s'),B C (bg q q')] 3):=⟨by rw[hw3,hgb];exact Bk.new _ _ _⟩
 have kS3:gN w1 w3:=by rw[hw3];exact kS.alloc _
 rw[<-hw3,<-hgb];clear hw3 hgb;refine hK.out _ _ (fun _=>kS3) ?_;clear hK K;try simp only[kA]
 refine zO 16 (fun K hK=>?_);go_simp;refine (Jn _ _ _ _ _ (gC _ _) (gC _ _) (gC _ _) HB.out).mono ?_;rintro e w2 ⟨rfl,rfl⟩;rw[HOR.out];refine hK.out _ _ (fun _=>kS3) ?_;clear hK K;try simp only[kA]
 refine zO 17 (fun K hK=>?_);go_simp;refine hK.out _ _ (fun h=>absurd rfl h) ?_;clear hK K;refine zD ?_;go_wp2_with fail;go_ret
 exact⟨rfl,HL.out.trans kS3⟩
abbrev iq (p:Nat):World->Value->List bN->Prop:=bj p 3 oT
def oD(S:List bN)(i k:Nat):Int:=if eR (ef S i).s (ef S i).q (ef S k).s (ef S k).q≠0 then eR (ef S i).s (ef S i).q (ef S k).s (ef S k).q else bg (i:Int) (k:Int)
def se(S:List bN)(i k:Nat):Int:=me (ef S i) (ef S k)
theorem jM(S:List bN)(i k:Nat):(rZ S i k=true/\oD S i k<0)\/(i=k/\oD S i k=0)\/(rZ S k i=true/\0<oD S i k):=by
 have e:∀x y,rZ S x y=true↔((ef S x).s<(ef S y).s\/((ef S x).s=(ef S y).s/\(ef S x).q<(ef S y).q))\/(((ef S x).s=(ef S y).s/\(ef S x).q=(ef S y).q)/\x<y):=fun x y=>by unfold rZ et;rw[Bool.or_eq_true,yT,decide_eq_true_eq,decide_eq_true_eq,decide_eq_true_eq,jS];rfl
 rw[e,e];unfold oD;rcases cT (ef S i).s (ef S i).q (ef S k).s (ef S k).q with ⟨h,e'⟩|⟨h,e'⟩|⟨h,e'⟩<;>rw[e']
 ·exact .inl ⟨.inl h,by simp⟩
 ·rcases bJ (i:Int) (k:Int) with ⟨g,f⟩|⟨g,f⟩|⟨g,f⟩<;>rw[f]
  ·exact .inl ⟨.inr ⟨h,by omega⟩,by simp⟩
  ·exact .inr (.inl ⟨by omega,by simp⟩)
  ·exact .inr (.inr ⟨.inr ⟨⟨h.1.symm,h.2.symm⟩,by omega⟩,by simp⟩)
 ·exact .inr (.inr ⟨.inl (by omega),by simp⟩)
theorem qn(S:List bN)(i:Nat):rZ S i i=false:=by unfold rZ;simp[mM]
theorem tQ{S:List bN}{i j k:Nat}(h1:rZ S i j=true)(h2:rZ S j k=true):rZ S i k=true:=by
 unfold rZ et at *
 simp only[Bool.or_eq_true,yT,decide_eq_true_eq,jS]at *;simp only[gu]at *;omega
theorem nM(S:List bN)(i k:Nat):oD S i k<0↔rZ S i k=true:=by
 rcases jM S i k with ⟨h,e⟩|⟨h,e⟩|⟨h,e⟩
 ·exact⟨fun _=>h,fun _=>e⟩
 ·subst h;rw[qn,e];simp
 ·refine⟨fun h'=>by omega,fun h'=>?_⟩;have:=tQ h h';rw[qn]at this;cases this
theorem FX{S:List bN}{x y z:Nat}(h1:¬oD S x y<0)(h2:¬oD S y z<0):¬oD S x z<0:=by
 rcases jM S x y with ⟨h,e⟩|⟨h,e⟩|⟨h,e⟩
 ·exact absurd e h1
 ·subst h;exact h2
 ·rcases jM S y z with ⟨g,f⟩|⟨g,f⟩|⟨g,f⟩
  ·exact absurd f h2
  ·subst g;exact h1
  ·intro h';have:=tQ (tQ g h) ((nM S x z).1 h');rw[qn]at this;cases this
theorem lr(S:List bN)(i k:Nat):se S i k<0↔gY (ef S i) (ef S k)=true:=by
 unfold se;rcases mn (ef S i) (ef S k) with ⟨h,e⟩|⟨h,e⟩|⟨h,e⟩
 ·rw[e,h];simp
 ·rw[e,h,eF.irr];simp
 ·rw[e,eF.asym h];simp
theorem Ht{S:List bN}{x y z:Nat}(h1:¬se S x y<0)(h2:¬se S y z<0):¬se S x z<0:=by
 rw[lr]at *;have tri:∀{a b:bN},¬gY a b=true->a=b\/gY b a=true:=fun {a b} h=>by
  rcases mn a b with ⟨g,_⟩|⟨g,_⟩|⟨g,_⟩
  ·exact absurd g h
  ·exact .inl g
  ·exact .inr g
 rcases tri h1 with h|h
 ·rw[h];exact h2
 ·rcases tri h2 with g|g
  ·rw[<-g];exact h1
  ·intro h';have:=eF.tr _ _ _ (eF.tr _ _ _ g h) h';rw[eF.irr]at this;cases this
theorem iq.read{b off n c k:Nat}{w wx:World}{l:List bN}(h:iq p w (D (some ⟨b,off,none⟩) n c) l)(hx:ab w wx)(hk:k<n) :
  ∃(t s q:Int),Hid (l[k]?=some ⟨t,s,q⟩)/\wx.cell? ⟨b,off+k*3,none⟩=some (B C t)/\wx.cell? ⟨b,off+k*3+1,none⟩=some (B C s)/\wx.cell? ⟨b,off+k*3+2,none⟩=some (B C q):=by
 obtain⟨cs,⟨t,s,q⟩,-,hc,⟨rfl,-⟩,HX⟩:=h.cell_ hk;exact⟨t,s,q,HX,by simpa using hx.cell (hc 0 _ rfl),hx.cell (hc 1 _ rfl),hx.cell (hc 2 _ rfl)⟩
theorem F8(i k b:Nat)(v:Value)(l:List bN)(w:World)(hb:w.cell? ⟨b,0,none⟩=some v)(hl:iq p w v l)(hi:i<l.length)(hk:k<l.length) :
  Calls prog 185 #[B C i,B C k,.pointer (some ⟨b,0,none⟩)] w fun e w'=>e=.returned (B C (oD l i k))/\gN w w':=by
 obtain⟨A,n,c,rfl,hnc,hcc,hnn,HL⟩:=hl.open_;have hin:i<n:=by have:=HL.out;omega
 have hkn:k<n:=by have:=HL.out;omega
 obtain⟨bl,ol,_,_,rfl,-⟩:=hl.at_ hin;obtain⟨t,s,q,HX,x0,x1,x2⟩:=iq.read hl (zE _) hin;obtain⟨t',s',q',HY,y0,y1,y2⟩:=iq.read hl (zE _) hkn;have HR:Bx (oD l i k=(([eR s q s' q',bg (i:Int) (k:Int)]:List Int).find? nz).getD 0):=⟨by
  unfold oD;rw[mI HX.out,mI HY.out];unfold nz;by_cases h:eR s q s' q'=0
  ·by_cases h2:bg (i:Int) (k:Int)=0<;>simp[h,h2]
  ·simp[h]⟩
 clear hl hi hk;go_enter func185,ntmps185
 go_upto_region 1 with (fail)
 refine zR 14 (fun w'=>gN w w') ?_;have kS:(fun w'=>gN w w') w.drew:=(gN.refl _).drew;have kD:ab w w.drew:=(zE _).drew;obtain⟨wd,hwd⟩:=nm (w.drew:World);rw[<-hwd]at kS kD⊢;clear hwd;refine zS 10 [(0,6),(1,7),(2,8),(3,9),(4,10),(5,11),(6,12),(7,13),(9,15),(10,16)] kS ?_;iterate 10 refine zT ?_ (y:=by intro wk hk;(replace hb:=hk.ext.cell hb);(replace x0:=hk.ext.cell x0);(replace x1:=hk.ext.cell x1);(replace x2:=hk.ext.cell x2);(replace y0:=hk.ext.cell y0);(replace y1:=hk.ext.cell y1);(replace y2:=hk.ext.cell y2);go_simp;try with_reducible rfl)
 refine zN (zO 8 (fun K hK=>?_));go_simp;refine (sE t s q t' s' q' _).mono ?_;rintro e w2 ⟨rfl,hx2⟩;have kS2:=kS.trans hx2;refine hK.out _ _ (fun _=>kS2) ?_;clear hK K;try simp only[kA]
 refine zO 11 (fun K hK=>?_);go_simp;refine (fN (i:Int) (k:Int) _).mono ?_;rintro e w3 ⟨rfl,rfl⟩;refine hK.out _ _ (fun _=>kS2) ?_;clear hK K;try simp only[kA]
 refine zO 12 (fun K hK=>?_);go_simp;obtain⟨gb,hgb⟩:=nm w2.heap.size;obtain⟨w3,hw3⟩:=nm ((w2.alloc (.cells #[B C (eR s q s' q'),B C (bg (i:Int) (k:Int))] 3)):World);have HB:Bx (Bk w3 gb #[B C (eR s q s' q'),B C (bg (i:Int) (k:Int))] 3):=⟨by rw[hw3,hgb];exact Bk.new _ _ _⟩
 have kS3:gN w w3:=by rw[hw3];exact kS2.alloc _
 rw[<-hw3,<-hgb];clear hw3 hgb;refine hK.out _ _ (fun _=>kS3) ?_;clear hK K;try simp only[kA]
 refine zO 13 (fun K hK=>?_);go_simp;refine (qd _ _ _ _ 2 (Jj _ _ _ _) (gC _ _) HB.out).mono ?_;rintro e w4 ⟨rfl,rfl⟩;rw[<-HR.out];refine hK.out _ _ (fun _=>kS3) ?_;clear hK K;try simp only[kA]
 refine zO 14 (fun K hK=>?_);go_simp;refine hK.out _ _ (fun h=>absurd rfl h) ?_;clear hK K;refine zD ?_;go_wp2_with fail;go_ret
 exact⟨rfl,kS3⟩
theorem Gf(i k b:Nat)(v:Value)(l:List bN)(w:World)(hb:w.cell? ⟨b,0,none⟩=some v)(hl:iq p w v l)(hi:i<l.length)(hk:k<l.length) :
  Calls prog 137 #[B C i,B C k,.pointer (some ⟨b,0,none⟩)] w fun e w'=>e=.returned (B C (se l i k))/\gN w w':=by
 obtain⟨A,n,c,rfl,hnc,hcc,hnn,HL⟩:=hl.open_;have hin:i<n:=by have:=HL.out;omega
 have hkn:k<n:=by have:=HL.out;omega
 obtain⟨bl,ol,_,_,rfl,-⟩:=hl.at_ hin;obtain⟨t,s,q,HX,x0,x1,x2⟩:=iq.read hl (zE _) hin;obtain⟨t',s',q',HY,y0,y1,y2⟩:=iq.read hl (zE _) hkn;have HR:Bx (se l i k=me ⟨t,s,q⟩ ⟨t',s',q'⟩):=⟨by unfold se;rw[mI HX.out,mI HY.out]⟩
 clear hl hi hk;go_enter func137,ntmps137
 go_upto_region 1 with (fail)
 refine zR 9 (fun w'=>gN w w') ?_;have kS:(fun w'=>gN w w') w.drew:=(gN.refl _).drew;have kD:ab w w.drew:=(zE _).drew;obtain⟨wd,hwd⟩:=nm (w.drew:World);rw[<-hwd]at kS kD⊢;clear hwd;refine zS 8 [(0,6),(1,7),(2,8),(3,9),(4,10),(5,11),(6,12),(7,13)] kS ?_;iterate 8 refine zT ?_ (y:=by intro wk hk;(replace hb:=hk.ext.cell hb);(replace x0:=hk.ext.cell x0);(replace x1:=hk.ext.cell x1);(replace x2:=hk.ext.cell x2);(replace y0:=hk.ext.cell y0);(replace y1:=hk.ext.cell y1);(replace y2:=hk.ext.cell y2);go_simp;try with_reducible rfl)
 refine zN (zO 8 (fun K hK=>?_));go_simp;refine (Dh t s q t' s' q' _).mono ?_;rintro e w2 ⟨rfl,hx2⟩;rw[<-HR.out];have kS2:=kS.trans hx2;refine hK.out _ _ (fun _=>kS2) ?_;clear hK K;try simp only[kA]
 refine zO 9 (fun K hK=>?_);go_simp;refine hK.out _ _ (fun h=>absurd rfl h) ?_;clear hK K;refine zD ?_;go_wp2_with fail;go_ret
 exact⟨rfl,kS2⟩
end Go.Proofs.YtkaajgoeahahpaaGreatDoor

namespace Go.Proofs.YtkaajgoeahahpaaGreatDoor
open Go.Value renaming int→B,slice→D
open Go.IntKind renaming i64→C
open Go.RowKit Go.Lib Go.Sort Go.Shelf
theorem J1{ρ:Ren}(L:SlLaysF0.n6 Tryz.prog ρ)(k:Nat)(hk0:0<k)(aE:∀w,(isAgg (ρ.t 24)).run Tryz.prog w=.ok true w)(zE:∀w,(Go.sizeOf (ρ.t 24)).run Tryz.prog w=.ok k w){α:Type}[Inhabited α](enc:α->List Value)(hk:∀x,(enc x).length=k)(h1:∀x,∀v∈enc x,v.oneCell'=true)(cf:α->α->Int)(irr:∀x,¬cf x x<0)(tr:∀x y z,cf x y<0->cf y z<0->cf x z<0)(ntr:∀x y z,¬cf x y<0->¬cf y z<0->¬cf x z<0)(g:Nat)(eg:∀args w,(callFunc g args).run Tryz.prog w=.ok (.enter g args) w)(hc:∀w1 x y,Calls Tryz.prog g #[.agg (enc x).toArray,.agg (enc y).toArray] w1 fun e w2=>e=.returned (B C (cf x y))/\gN w1 w2)(base:Nat)(e:TypeId)(v:Value)(xs:List α)(w:World)(hn:xs.length<=1000000)(hown:w.ownsRow base e k v xs.length (xs.map enc).flatten) :
  Calls Tryz.prog (ρ.f 6) #[v,.func (.func g) #[] #[]] w fun e' w'=>e'=.returned (.tuple #[])/\∃xs':List α,xs'.Perm xs/\(xs'.Pairwise fun a b=>¬cf b a<0)/\w'.ownsRow base e k v xs.length (xs'.map enc).flatten/\w.grownBy w' v.ownBlock:=by
 rcases vE xs.length with h0|h0
 ·obtain rfl:xs=[]:=xZ h0;obtain⟨A,c,rfl⟩:∃A c,v=D A 0 c:=by
   rcases hown.2 with ⟨e,_⟩|⟨g',cap,cur,e,_⟩
   ·exact⟨none,0,e⟩
   ·exact⟨_,_,e⟩
  refine (AnyF.slices_SortFunc_none L A c (.func (.func g) #[] #[]) w).mono ?_;rintro e w' ⟨rfl,rfl⟩;exact⟨rfl,[],wN _,xE,hown,uU _ _⟩
 ·obtain⟨G,cap,rfl⟩:∃G cap,v=D (some ⟨G,0,none⟩) xs.length cap:=by
   rcases hown.2 with ⟨_,e⟩|⟨g',cap,cur,e,_⟩
   ·omega
   ·exact⟨_,_,e⟩
  obtain⟨hH,hb,hback⟩:=F3 enc hk0 hk rfl hown;have hO:SWO (ltOf cf):=⟨fun x=>by have:=irr x;simp[ltOf,this],fun x y z h1 h2=>by
   simp only[ltOf,decide_eq_true_eq]at *;exact tr _ _ _ h1 h2,fun x y z h1 h2=>by
   simp only[ltOf,decide_eq_false_iff_not]at *;exact ntr _ _ _ h1 h2⟩
  have hd:xs.toArray.size=xs.length:=by simp
  have hcmp:CmpLays Tryz.prog g #[] enc k cf G 0 xs.toArray.size w:=by intro m os dk hs x y;exact hc _ x y
  have hs:=AnyQ.slices_SortFunc L k aE zE enc hk h1 cf hO g #[] G 0 cap xs.toArray w eg hcmp hH hb (by omega);rw[hd]at hs;refine hs.mono ?_;rintro e w' ⟨rfl,d',n,os,hp,hsrt,rfl⟩;rw[<-hd]at hp hsrt;have hsz:d'.size=xs.toArray.size:=hp.1;have hpl:=D8 hp;rw[<-hsz]at hsrt;have hpw:=JU hsrt;obtain⟨h1,h2⟩:=hback d' (by omega) n os;exact⟨rfl,d'.toList,hpl,hpw.imp fun {a b} h=>by simpa[ltOf] using h,h1,h2⟩
theorem Dr{a b c d e f:Int}(h1:eR a b c d<0)(h2:eR c d e f<0):eR a b e f<0:=by rcases cT a b c d with ⟨g,r⟩|⟨g,r⟩|⟨g,r⟩<;>rcases cT c d e f with ⟨g',r'⟩|⟨g',r'⟩|⟨g',r'⟩<;>rcases cT a b e f with ⟨g2,r2⟩|⟨g2,r2⟩|⟨g2,r2⟩<;>omega
theorem Ar{a b c d e f:Int}(h1:¬eR a b c d<0)(h2:¬eR c d e f<0):¬eR a b e f<0:=by rcases cT a b c d with ⟨g,r⟩|⟨g,r⟩|⟨g,r⟩<;>rcases cT c d e f with ⟨g',r'⟩|⟨g',r'⟩|⟨g',r'⟩<;>rcases cT a b e f with ⟨g2,r2⟩|⟨g2,r2⟩|⟨g2,r2⟩<;>omega
theorem At(a b:Int):¬eR a b a b<0:=by rcases cT a b a b with ⟨g,r⟩|⟨g,r⟩|⟨g,r⟩<;>omega
end Go.Proofs.YtkaajgoeahahpaaGreatDoor

namespace Go.Proofs.YtkaajgoeahahpaaGreatDoor
open Go.Value renaming int→B,slice→D
open Go.IntKind renaming i64→C
open Go.RowKit Go.Lib Go.Sort
theorem GM(xs xq xt xa xb xc xd ys yq yt ya yb yc yd:Int)(w:World) :
  Calls Tryz.prog 73 #[.agg #[B C xs,B C xq,B C xt,B C xa,B C xb,B C xc,B C xd],.agg #[B C ys,B C yq,B C yt,B C ya,B C yb,B C yc,B C yd]] w fun e w'=>e=.returned (B C (eR xs xq ys yq))/\gN w w':=by
 go_enter Tryz.func73,Tryz.ntmps73
 go_upto_region 1 with (fail)
 obtain⟨w1,hw1⟩:=nm (((w.alloc (.cells #[B C xs,B C xq,B C xt,B C xa,B C xb,B C xc,B C xd] 67)).alloc (.cells #[B C ys,B C yq,B C yt,B C ya,B C yb,B C yc,B C yd] 67)):World);have HF:Bx (aA w w1 [(w.heap.size,#[B C xs,B C xq,B C xt,B C xa,B C xb,B C xc,B C xd],67),(w.heap.size+1,#[B C ys,B C yq,B C yt,B C ya,B C yb,B C yc,B C yd],67)]):=⟨by rw[hw1];exact ((aA.start w).push _ _ rfl).push _ _ (by simp)⟩
 have HL:Bx (gN w w1):=⟨by rw[hw1];exact ((gN.refl _).alloc _).alloc _⟩
 rw[<-hw1];clear hw1;obtain⟨a0,a1⟩:=(HF.out.at_ 0 rfl).p2 rfl;obtain⟨b0,b1⟩:=(HF.out.at_ 1 rfl).p2 rfl;refine zR 16 (fun w'=>gN w1 w') ?_;have kS:(fun w'=>gN w1 w') w1.drew:=(gN.refl _).drew;have kD:ab w1 w1.drew:=(zE _).drew;obtain⟨wd,hwd⟩:=nm (w1.drew:World);rw[<-hwd]at kS kD⊢;clear hwd;refine zS 12 [(0,5),(1,6),(2,7),(3,8),(4,9),(5,10),(7,12),(8,13),(9,14),(10,15),(11,16),(12,17)] kS ?_;iterate 12 refine zT ?_ (y:=by intro wk hk;(replace a0:=hk.ext.cell a0);(replace a1:=hk.ext.cell a1);(replace b0:=hk.ext.cell b0);(replace b1:=hk.ext.cell b1);go_simp;try with_reducible rfl)
 refine zN (zO 6 (fun K hK=>?_));go_simp;refine (fN xs ys _).mono ?_;rintro e w2 ⟨rfl,rfl⟩;refine hK.out _ _ (fun _=>kS) ?_;clear hK K;try simp only[kA]
 refine zO 13 (fun K hK=>?_);go_simp;refine (fN xq yq _).mono ?_;rintro e w2 ⟨rfl,rfl⟩;refine hK.out _ _ (fun _=>kS) ?_;clear hK K;try simp only[kA]
 refine zO 14 (fun K hK=>?_);go_simp;obtain⟨gb,hgb⟩:=nm wd.heap.size;obtain⟨w3,hw3⟩:=nm ((wd.alloc (.cells #[B C (bg xs ys),B C (bg xq yq)] 3)):World);have HB:Bx (Bk w3 gb #[B C (bg xs ys),B C (bg xq yq)] 3):=⟨by rw[hw3,hgb];exact Bk.new _ _ _⟩
 have kS3:gN w1 w3:=by rw[hw3];exact kS.alloc _
 rw[<-hw3,<-hgb];clear hw3 hgb;refine hK.out _ _ (fun _=>kS3) ?_;clear hK K;try simp only[kA]
 refine zO 15 (fun K hK=>?_);go_simp;refine (qd _ _ _ _ 2 (gC _ _) (gC _ _) HB.out).mono ?_;rintro e w2 ⟨rfl,rfl⟩;rw[uw];refine hK.out _ _ (fun _=>kS3) ?_;clear hK K;try simp only[kA]
 refine zO 16 (fun K hK=>?_);go_simp;refine hK.out _ _ (fun h=>absurd rfl h) ?_;clear hK K;refine zD ?_;go_wp2_with fail;go_ret
 exact⟨rfl,HL.out.trans kS3⟩
theorem Hg(xc xg xt xs xq yc yg yt ys yq:Int)(xA yA:Option Addr)(xn xcc yn ycc:Nat)(w:World) :
  Calls Tryz.prog 77 #[.agg #[B C xc,B C xg,B C xt,D xA xn xcc,B C xs,B C xq],.agg #[B C yc,B C yg,B C yt,D yA yn ycc,B C ys,B C yq]] w fun e w'=>e=.returned (B C (eR xc xg yc yg))/\gN w w':=by
 go_enter Tryz.func77,Tryz.ntmps77
 go_upto_region 1 with (fail)
 obtain⟨w1,hw1⟩:=nm (((w.alloc (.cells #[B C xc,B C xg,B C xt,D xA xn xcc,B C xs,B C xq] 72)).alloc (.cells #[B C yc,B C yg,B C yt,D yA yn ycc,B C ys,B C yq] 72)):World);have HF:Bx (aA w w1 [(w.heap.size,#[B C xc,B C xg,B C xt,D xA xn xcc,B C xs,B C xq],72),(w.heap.size+1,#[B C yc,B C yg,B C yt,D yA yn ycc,B C ys,B C yq],72)]):=⟨by rw[hw1];exact ((aA.start w).push _ _ rfl).push _ _ (by simp)⟩
 have HL:Bx (gN w w1):=⟨by rw[hw1];exact ((gN.refl _).alloc _).alloc _⟩
 rw[<-hw1];clear hw1;obtain⟨a0,a1⟩:=(HF.out.at_ 0 rfl).p2 rfl;obtain⟨b0,b1⟩:=(HF.out.at_ 1 rfl).p2 rfl;refine zR 12 (fun w'=>gN w1 w') ?_;have kS:(fun w'=>gN w1 w') w1.drew:=(gN.refl _).drew;have kD:ab w1 w1.drew:=(zE _).drew;obtain⟨wd,hwd⟩:=nm (w1.drew:World);rw[<-hwd]at kS kD⊢;clear hwd;refine zS 8 [(0,5),(1,6),(2,7),(3,8),(5,10),(6,11),(7,12),(8,13)] kS ?_;iterate 8 refine zT ?_ (y:=by intro wk hk;(replace a0:=hk.ext.cell a0);(replace a1:=hk.ext.cell a1);(replace b0:=hk.ext.cell b0);(replace b1:=hk.ext.cell b1);go_simp;try with_reducible rfl)
 refine zN (zO 4 (fun K hK=>?_));go_simp;refine (fN xc yc _).mono ?_;rintro e w2 ⟨rfl,rfl⟩;refine hK.out _ _ (fun _=>kS) ?_;clear hK K;try simp only[kA]
 refine zO 9 (fun K hK=>?_);go_simp;refine (fN xg yg _).mono ?_;rintro e w2 ⟨rfl,rfl⟩;refine hK.out _ _ (fun _=>kS) ?_;clear hK K;try simp only[kA]
 refine zO 10 (fun K hK=>?_);go_simp;obtain⟨gb,hgb⟩:=nm wd.heap.size;obtain⟨w3,hw3⟩:=nm ((wd.alloc (.cells #[B C (bg xc yc),B C (bg xg yg)] 3)):World);have HB:Bx (Bk w3 gb #[B C (bg xc yc),B C (bg xg yg)] 3):=⟨by rw[hw3,hgb];exact Bk.new _ _ _⟩
 have kS3:gN w1 w3:=by rw[hw3];exact kS.alloc _
 rw[<-hw3,<-hgb];clear hw3 hgb;refine hK.out _ _ (fun _=>kS3) ?_;clear hK K;try simp only[kA]
 refine zO 11 (fun K hK=>?_);go_simp;refine (qd _ _ _ _ 2 (gC _ _) (gC _ _) HB.out).mono ?_;rintro e w2 ⟨rfl,rfl⟩;rw[uw];refine hK.out _ _ (fun _=>kS3) ?_;clear hK K;try simp only[kA]
 refine zO 12 (fun K hK=>?_);go_simp;refine hK.out _ _ (fun h=>absurd rfl h) ?_;clear hK K;refine zD ?_;go_wp2_with fail;go_ret
 exact⟨rfl,HL.out.trans kS3⟩
instance:Inhabited dF:=⟨⟨⟨0,0⟩,0,⟨0,0,0,0⟩⟩⟩
theorem Iy(a b:dF):eR a.scan.s a.scan.q b.scan.s b.scan.q<0↔bU a b=true:=by unfold bU et;rw[decide_eq_true_eq];rcases cT a.scan.s a.scan.q b.scan.s b.scan.q with ⟨g,r⟩|⟨g,r⟩|⟨g,r⟩<;>omega
theorem KJ(a b:Pg):eR a.cand a.page b.cand b.page<0↔dW a b=true:=by unfold dW;rw[decide_eq_true_eq];rcases cT a.cand a.page b.cand b.page with ⟨g,r⟩|⟨g,r⟩|⟨g,r⟩<;>omega
theorem Et(base:Nat)(v:Value)(l:List dF)(w W:World)(hn:l.length<=1000000)(h:ah base 67 7 (cU W) w v l) :
  Calls Tryz.prog 72 #[v,.func (.func 73) #[] #[]] w fun e w'=>e=.returned (.tuple #[])/\∃l':List dF,l'.Perm l/\(l'.Pairwise fun a b=>¬bU b a=true)/\ah base 67 7 (cU W) w' v l'/\w.grownBy w' v.ownBlock:=by
 obtain⟨css,h1,h2,h3,h4⟩:=h;have hcs:css=l.map dF.cells:=by
  apply xW;intro k;rcases zU k l.length with hk|hk
  ·have hc:css[k]?=some (css[k]'(by omega)):=zV _;have hx:l[k]?=some (l[k]'hk):=zV _;rw[hc,zP,hx,(h4 k _ _ hc hx).1];rfl
  ·rw[zC (by omega),zC (by simp;omega)]
 have hwf:∀x∈l,x.wf:=fun x hx=>by obtain⟨k,hk⟩:=zH hx;have:=(zY.1 hk).1;exact (h4 k _ _ (zV (by omega)) hk).2
 rw[hcs]at h3;have eg:∀args w,(callFunc 73 args).run Tryz.prog w=.ok (.enter 73 args) w:=enters_of Tryz.func73 (by kernel_rfl) rfl;refine (J1 (ρ:=m6) FR 7 (by decide) Tryz.isAgg67 Tryz.sizeOf67 dF.cells (fun _=>rfl) (fun x v hv=>by simp only[dF.cells,yM,wL,or_false]at hv;rcases hv with rfl|rfl|rfl|rfl|rfl|rfl|rfl<;>rfl) (fun a b=>eR a.scan.s a.scan.q b.scan.s b.scan.q) (fun x=>At _ _) (fun x y z=>Dr) (fun x y z=>Ar) _ eg (fun w1 x y=>GM _ _ _ _ _ _ _ _ _ _ _ _ _ _ w1) base _ v l w hn h3).mono ?_
 rintro e w' ⟨rfl,l',p1,p2,p3,p4⟩;refine⟨rfl,l',p1,p2.imp fun {a b} h=>by rwa [Iy]at h,⟨l'.map dF.cells,by simp,fun cs hc=>by obtain⟨x,_,rfl⟩:=zF.1 hc;rfl,by rw[p1.length_eq];exact p3,fun k cs x hc hx=>?_⟩,p4⟩;rw[zP,hx]at hc;injection hc with hc;exact⟨hc.symm,hwf x (p1.mem_iff.1 (zW hx))⟩
structure FA where
 pg:Pg
 A:Option Addr
 n:Nat
 c:Nat
instance:Inhabited FA:=⟨⟨⟨0,0,0,[],⟨0,0⟩⟩,none,0,0⟩⟩
def FA.cells(x:FA):List Value:=x.pg.cells (D x.A x.n x.c)
theorem Ef(base:Nat)(v:Value)(l:List Pg)(w:World)(R:List Value->Pg->Prop)(hR:∀cs x,R cs x->∃A n c,cs=x.cells (D A n c))(hn:l.length<=1000000)(h:ah base 72 6 R w v l) :
  Calls Tryz.prog 76 #[v,.func (.func 77) #[] #[]] w fun e w'=>e=.returned (.tuple #[])/\∃l':List Pg,l'.Perm l/\(l'.Pairwise fun a b=>¬dW b a=true)/\ah base 72 6 R w' v l'/\w.grownBy w' v.ownBlock:=by
 obtain⟨css,h1,h2,h3,h4⟩:=h;obtain⟨zs,e1,e2,e3⟩:∃zs:List FA,zs.map FA.pg=l/\zs.map FA.cells=css/\∀a∈zs,R a.cells a.pg:=by
  clear h3 h2;induction l generalizing css with
  |nil =>
   obtain rfl:css=[]:=xZ h1;exact⟨[],rfl,rfl,fun a h=>by simp at h⟩
  |cons x l ih =>
   match css,h1,h4 with
   |cs::css,h1,h4 =>
    obtain⟨zs,a1,a2,a3⟩:=ih (by simp at hn;omega) css (by simpa using h1) (fun k c y hc hy=>h4 (k+1) c y (by simpa using hc) (by simpa using hy));have hr:=h4 0 cs x rfl rfl;obtain⟨A,n,c,e⟩:=hR _ _ hr;refine⟨⟨x,A,n,c⟩::zs,by simp[a1],by simp[a2,FA.cells,e],fun a ha=>?_⟩;rcases yM.1 ha with rfl|ha
    ·unfold FA.cells;rw[<-e];exact hr
    ·exact a3 a ha
 have hl:zs.length=l.length:=by rw[<-e1];simp
 rw[<-e2,<-hl]at h3;have eg:∀args w,(callFunc 77 args).run Tryz.prog w=.ok (.enter 77 args) w:=enters_of Tryz.func77 (by kernel_rfl) rfl;refine (J1 (ρ:=mV) Hb 6 (by decide) Tryz.isAgg72 Tryz.sizeOf72 FA.cells (fun _=>rfl) (fun x v hv=>by simp only[FA.cells,Pg.cells,yM,wL,or_false]at hv;rcases hv with rfl|rfl|rfl|rfl|rfl|rfl<;>rfl) (fun a b=>eR a.pg.cand a.pg.page b.pg.cand b.pg.page) (fun x=>At _ _) (fun x y z=>Dr) (fun x y z=>Ar) _ eg (fun w1 x y=>Hg _ _ _ _ _ _ _ _ _ _ _ _ _ _ _ _ w1) base _ v zs w (by omega) h3).mono ?_
 rintro e w' ⟨rfl,l',p1,p2,p3,p4⟩;refine⟨rfl,l'.map FA.pg,by rw[<-e1];exact p1.map _,?_,⟨l'.map FA.cells,by simp,fun cs hc=>by obtain⟨x,_,rfl⟩:=zF.1 hc;rfl,by rw[zJ,p1.length_eq];exact p3,fun k cs x hc hx=>?_⟩,p4⟩
 ·rw[uK];exact p2.imp fun {a b} h=>by rwa [KJ]at h
 ·rw[zP,yO]at hc hx;obtain⟨a,ha,rfl⟩:=hc;obtain⟨b,hb,rfl⟩:=hx;rw[ha]at hb;injection hb with hb;subst hb
  exact e3 a (p1.mem_iff.1 (zW ha))
end Go.Proofs.YtkaajgoeahahpaaGreatDoor

namespace Go.Proofs.YtkaajgoeahahpaaGreatDoor
open Go.Value renaming int→B,slice→D
open Go.IntKind renaming i64→C
open Go.RowKit
variable {b' b2 base e g gI n p size:Nat} {W1 w w' wr:World} {v vG vS:Value} {cs:List Value} {t:TypeId}
theorem ah.inner{α:Type}{R:List Value->α->Prop}{xs:List α}(h:ah base e size R w v xs):∃n cs,w.ownsRow base e size v n cs:=by obtain⟨css,_,_,h3,_⟩:=h;exact⟨_,_,h3⟩
theorem Ke(h:w.ownsRow base e size v n cs){r:Nat}(hr:v.ownBlock=some r):base<=r/\∃cur,Bk w r cur e:=by
 rcases h.2 with ⟨rfl,_⟩|⟨g',cap,cur,rfl,hb,hh,_⟩
 ·simp[Value.ownBlock]at hr
 ·simp only[Value.ownBlock]at hr;injection hr with hr;subst hr;exact⟨hb,cur,hh⟩
theorem ah.impR{α:Type}{R R':List Value->α->Prop}{xs:List α}(h:ah base e size R w v xs)(hR:∀cs x,R cs x->R' cs x):ah base e size R' w v xs:=by obtain⟨css,h1,h2,h3,h4⟩:=h;exact⟨css,h1,h2,h3,fun k cs x a b=>hR _ _ (h4 k cs x a b)⟩
def gQ(w:World)(base:Nat)(row:Option Nat)(t:TypeId):Prop:=∀r,row=some r->base<=r/\∃cur,Bk w r cur t
theorem gQ.own(h:w.ownsRow base e size v n cs):gQ w base v.ownBlock e:=fun _ hr=>Ke h hr
theorem gQ.blk{cs:Array Value}(h:Bk w g cs t):gQ w g (some g) t:=fun r e=>by injection e with e;subst e;exact⟨zX _,_,h⟩
theorem Cb{row:Option Nat}(h:w.ownsRow base e size v n cs)(hg:w.grownBy w' row)(ht:gQ w b' row t)(hne:t≠e):w'.ownsRow base e size v n cs:=by
 cases hv:v.ownBlock with
 |none=>exact h.kept hg (.inl hv)
 |some r=>exact h.kept hg (.inr (fun e'=>by rw[hv]at e';obtain⟨_,cur,hb⟩:=ht r e'.symm;exact tX h hb hne hv))
theorem ah.turn{α:Type}{R:List Value->α->Prop}{xs:List α}{row:Option Nat}(h:ah base e size R w v xs)(hg:w.grownBy w' row)(ht:gQ w b' row t)(hne:t≠e):ah base e size R w' v xs:=by obtain⟨css,h1,h2,h3,h4⟩:=h;exact⟨css,h1,h2,Cb h3 hg ht hne,h4⟩
theorem Bk.turn{cs:Array Value}{t':TypeId}{row:Option Nat}(h:Bk w g cs t)(hg:w.grownBy w' row)(ht:gQ w b' row t')(hne:t'≠t):Bk w' g cs t :=
 h.grown hg (fun e=>by obtain⟨_,cur,hb⟩:=ht g e;unfold Bk at h hb;rw[h]at hb;injection hb with hb;injection hb with _ hb _;exact hne hb.symm)
def oU(base:Nat)(w:World)(cs:List Value)(g:Pg):Prop:=∃A n c,cs=g.cells (D A n c)/\w.ownsRow base 3 1 (D A n c) g.ch.length (g.ch.map (Value.int .i64))/\g.wf/\(∀x∈g.ch,aU x)/\g.ch.length<=1000
theorem oU.ext{g:Pg}(h:oU base w cs g)(x:ab w w'):oU base w' cs g:=by obtain⟨A,n,c,h1,h2,h3⟩:=h;exact⟨A,n,c,h1,ao h2 x,h3⟩
theorem oU.turn{g:Pg}{row:Option Nat}(h:oU base w cs g)(hg:w.grownBy w' row)(ht:gQ w b' row t)(hne:t≠3):oU base w' cs g:=by obtain⟨A,n,c,h1,h2,h3⟩:=h;exact⟨A,n,c,h1,Cb h2 hg ht hne,h3⟩
theorem oU.pg{g:Pg}(h:oU base w cs g)(hp:p<base):lO p w cs g:=by obtain⟨A,n,c,h1,h2,h3,h4,h5⟩:=h;exact⟨_,h1,ak.of_own (p:=p) h2 hp h4 (by omega),h3⟩
structure dy (W1 wr:World) (gI b2:Nat) (vS vG:Value) (xs:List dF) (ys:List Pg):Prop where
 x:ab W1 wr
 it:Bk wr gI #[vS,vG] 59
 st:ah b2 67 7 (cU W1) wr vS xs
 pg:ah b2 72 6 (oU b2 wr) wr vG ys
 g1:W1.heap.size<=gI
 g2:gI<b2
 g3:b2<=wr.heap.size
section
variable {W1 wr w':World} {gI b2:Nat} {vS vG v':Value} {xs:List dF} {ys:List Pg} {y:dF} {z:Pg}
theorem dy.ext(h:dy W1 wr gI b2 vS vG xs ys)(e:ab wr w'):dy W1 w' gI b2 vS vG xs ys :=
 ⟨h.x.trans e,h.it.ext e,h.st.ext e,(h.pg.ext e).impR (fun _ _ hr=>hr.ext e),h.g1,h.g2,yR h.g3 e.size⟩
theorem rQ(w:World)(g i:Nat)(u:Value):w.grownBy (w.setCell ⟨g,i,none⟩ u) (some g):=ez g [u] w i
theorem dy.addS(h:dy W1 wr gI b2 vS vG xs ys)(ho:ah b2 67 7 (cU W1) w' v' (xs++[y]))(hg:wr.grownBy w' vS.ownBlock) :
  Bk w' gI #[vS,vG] 59/\dy W1 (w'.setCell ⟨gI,0,none⟩ v') gI b2 v' vG (xs++[y]) ys:=by
 obtain⟨n,cs,hr⟩:=h.st.inner;have ht:=gQ.own hr;have hb:=h.it.turn hg ht (by decide);have ht2:=gQ.blk hb;have hg2:=rQ w' gI 0 v';refine⟨hb,(h.x.grown hg (fun k e=>by have:=(ht k e).1;have:=h.g1;have:=h.g2;omega)).grown hg2 (fun k e=>by injection e with e;subst e;exact h.g1),hb.set 0 v',ho.turn hg2 ht2 (by decide),
  ((h.pg.turn hg ht (by decide)).turn hg2 ht2 (by decide)).impR (fun _ _ hr=>(hr.turn hg ht (by decide)).turn hg2 ht2 (by decide)),h.g1,h.g2,?_⟩
 have:=h.g3;have:=hg.size;have:=hg2.size;omega
theorem dy.addG(h:dy W1 wr gI b2 vS vG xs ys)(ho:ah b2 72 6 (oU b2 wr) w' v' (ys++[z]))(hg:wr.grownBy w' vG.ownBlock) :
  Bk w' gI #[vS,vG] 59/\dy W1 (w'.setCell ⟨gI,1,none⟩ v') gI b2 vS v' xs (ys++[z]):=by
 obtain⟨n,cs,hr⟩:=h.pg.inner;have ht:=gQ.own hr;have hb:=h.it.turn hg ht (by decide);have ht2:=gQ.blk hb;have hg2:=rQ w' gI 1 v';refine⟨hb,(h.x.grown hg (fun k e=>by have:=(ht k e).1;have:=h.g1;have:=h.g2;omega)).grown hg2 (fun k e=>by injection e with e;subst e;exact h.g1),hb.set 1 v',(h.st.turn hg ht (by decide)).turn hg2 ht2 (by decide),
  (ho.turn hg2 ht2 (by decide)).impR (fun _ _ hr=>(hr.turn hg ht (by decide)).turn hg2 ht2 (by decide)),h.g1,h.g2,?_⟩
 have:=h.g3;have:=hg.size;have:=hg2.size;omega
theorem dy.srtS{xs':List dF}(h:dy W1 wr gI b2 vS vG xs ys)(ho:ah b2 67 7 (cU W1) w' vS xs')(hg:wr.grownBy w' vS.ownBlock):dy W1 w' gI b2 vS vG xs' ys:=by obtain⟨n,cs,hr⟩:=h.st.inner;have ht:=gQ.own hr;exact⟨h.x.grown hg (fun k e=>by have:=(ht k e).1;have:=h.g1;have:=h.g2;omega),h.it.turn hg ht (by decide),ho,(h.pg.turn hg ht (by decide)).impR (fun _ _ hr=>hr.turn hg ht (by decide)),h.g1,h.g2,yR h.g3 hg.size⟩
theorem dy.srtG{ys':List Pg}(h:dy W1 wr gI b2 vS vG xs ys)(ho:ah b2 72 6 (oU b2 wr) w' vG ys')(hg:wr.grownBy w' vG.ownBlock):dy W1 w' gI b2 vS vG xs ys':=by obtain⟨n,cs,hr⟩:=h.pg.inner;have ht:=gQ.own hr;exact⟨h.x.grown hg (fun k e=>by have:=(ht k e).1;have:=h.g1;have:=h.g2;omega),h.it.turn hg ht (by decide),h.st.turn hg ht (by decide),ho.impR (fun _ _ hr=>hr.turn hg ht (by decide)),h.g1,h.g2,yR h.g3 hg.size⟩
end
theorem dy.start(w:World):dy w (w.alloc (.cells #[D none 0 0,D none 0 0] 59)) w.heap.size (w.heap.size+1) (D none 0 0) (D none 0 0) [] [] :=
 ⟨(zE _).alloc _,Bk.new _ _ _,ah.nil,ah.nil,zX _,Nat.lt_succ_self _,by simp⟩
theorem dy.isI{xs:List dF}{ys:List Pg}(h:dy W1 wr gI b2 vS vG xs ys)(hp:p<W1.heap.size):aK p wr (.agg #[vS,vG]) ⟨xs,ys⟩:=by have h1:=h.g1;have h2:=h.g2;exact⟨_,_,rfl,h.st.isS (by decide) (by omega) (fun _ _ hr=>hr),h.pg.isS (by decide) (by omega) (fun _ _ hr=>hr.pg (by omega))⟩
theorem G5{α:Type}{lt:α->α->Bool}{l l':List α}(p:l'.Perm l)(h:l.Pairwise fun a b=>lt a b=true\/lt b a=true)(h':l'.Pairwise fun a b=>¬lt b a=true):iT lt l':=by have h2:l'.Pairwise fun a b=>lt a b=true\/lt b a=true:=h.perm p.symm (fun h=>h.symm);exact List.Pairwise.imp₂ (fun _ _ h1 h2=>h1.resolve_right h2) h2 h'
theorem GE{s:dl}{L:List aj}{y0:dH}{j0:Nat}(h:(af s L)[j0]?=some y0)(j:Nat):pb L y0.cap j=kr (af s L) y0 j:=by
 unfold pb kr;unfold af;rw[zP];cases L[j]? with
 |none=>rfl
 |some z =>
  simp only[Option.map_some];unfold en;rw[ff]
theorem FM{s:dl}{L:List aj}{y0:dH}{j0:Nat}(h:(af s L)[j0]?=some y0)(js:List Nat):js.any (pb L y0.cap)=js.any (kr (af s L) y0):=by congr 1;funext j;exact GE h j
theorem dy.keepG{xs:List dF}{ys:List Pg}{cs:Array Value}(h:dy W1 wr gI b2 vS vG xs ys)(hg:wr.grownBy w' vG.ownBlock)(hb:Bk wr g cs t)(ht:72≠t):Bk w' g cs t:=by obtain⟨n,cs,hr⟩:=h.pg.inner;exact hb.turn hg (gQ.own hr) ht
theorem dy.fin{r:Nat}{xs:List dF}{ys:List Pg}{cs:Array Value}(h:dy W1 wr gI b2 vS vG xs ys)(hp:p<W1.heap.size)(hb:Bk wr r cs 59)(vs:List Value):aK p (be wr r 0 vs) (.agg #[vS,vG]) ⟨xs,ys⟩:=by have h1:=h.g1;have h2:=h.g2;have hg:=ez r vs wr 0;have ht:=gQ.blk hb;exact⟨_,_,rfl,(h.st.turn hg ht (by decide)).isS (by decide) (by omega) (fun _ _ hr=>hr),((h.pg.turn hg ht (by decide)).impR (fun _ _ hr=>hr.turn hg ht (by decide))).isS (by decide) (by omega) (fun _ _ hr=>hr.pg (by omega))⟩
theorem Gq(s:dl)(l:List aj){c:aj}(hc:c.kind=1):∃a b d e sx,aM s l c=⟨c,⟨a,b,d,e⟩,sx,decide (sx=0)⟩:=by
 unfold aM;rw[if_pos hc];generalize aQ l c.id=z;obtain⟨⟨a,b,d,e⟩,st⟩:=z;refine⟨a,b,d,e,if st=0 then (if bH s ⟨a,b,d,e⟩ c.ch then 0 else 5) else st,?_⟩;simp only;by_cases h0:st=0
 ·cases hf:bH s ⟨a,b,d,e⟩ c.ch<;>simp[h0,hf]
 ·simp[h0]
theorem IW{R:List dH}{k:Nat}{x:dH}(h:(lQ x).wf):(lN R k x).wf:=by
 refine⟨h.1,?_,h.2.2⟩;unfold lN cR;simp only;split
 ·rcases sw R k x with e|e|e<;>(rw[e];exact⟨by decide,by decide⟩)
 ·exact h.2.1
theorem Ky{x:dH}(h:(lQ x).wf)(hc:x.cap.wf):(Gs x).wf:=⟨h.2.2.2.1,h.2.2.2.2.1,hc.2.2.2.1,h.1,hc.2.2.2.2.2.2⟩
theorem Ek{s:dl}{L:List aj}{x:dH}{k b:Nat}{G:Value->List Nat}{vg:Value}(hn:n=L.length)(hn3:n<=300)(hx:(af s L)[k]?=some x)(hf:x.fit=true)(hgo:∀c g,G (r9 c g)=ed (af s L) n c g)(hrow:w.ownsRow b 3 1 vg (G (r9 x.lab.c x.lab.g)).length ((G (r9 x.lab.c x.lab.g)).map nW))(hp:p<b) :
  ∃(js:List Nat) (j0:Nat) (y0:aj),ak p w vg (js.map fun j:Nat=>(j:Int))/\js[0]?=some j0/\L[j0]?=some y0/\(∀j∈js,j<L.length)/\FZ (js.any (pb L y0)) k j0=cR (af s L) k x:=by
 obtain⟨j0,t,y0,hG,h1,h2,h3⟩:=Ex hx hf;rw[hgo,hn,hG]at hrow;have hlt:∀j∈j0::t,j<L.length:=fun j hj=>by rw[<-hG]at hj;exact (lh.1 hj).1
 have hll:(j0::t).length<=L.length:=by rw[<-hG];exact G8 _ _ _ _
 refine⟨j0::t,j0,y0.cap,?_,rfl,(de h2).1,hlt,?_⟩
 ·have e:(j0::t).map nW=((j0::t).map fun j:Nat=>(j:Int)).map (Value.int .i64):=by rw[vY];rfl
  rw[e]at hrow;have e2:(j0::t).length=((j0::t).map fun j:Nat=>(j:Int)).length:=by simp
  rw[e2]at hrow;refine ak.of_own (p:=p) hrow hp (fun z hz=>?_) (by rw[<-e2];omega);obtain⟨j,hj,rfl⟩:=zF.1 hz;have:=hlt j hj;constructor<;>omega
 ·rw[FM h2];unfold cR;rw[if_pos hf,h3];unfold FZ;rfl
theorem CM{P:Program}{α:Type}{ops:Array Oper}{o:Oper}{a:Act}{K:Act->World->Prop}{Q:Exit->Act->World->Prop}{E:Prop}(hgd:o.guard=none)(s x:Operand)(t:TypeId)(ho:o.op=.call { callee:=.builtin .append,args:=#[s,x],argTypes:=#[t,t] })(base:Nat)(e:TypeId)(i:TypeInfo)(z:Value)(size bytes:Nat)(ht:P.underlying t=some (.slice e))(hi:P.info? e=some i)(hz:i.zero=some z)(hsize:i.size=size)(hby:i.bytes=bytes)(hzs:z.cells.size=size)(hsz:0<size)(R:List Value->α->Prop)(A:Option Addr)(n c:Nat)(xs:List α)(hs:a.eval s=D A n c)(hn:xs.length=n)(hown:ah base e size R w (D A n c) xs)(g:Nat)(us:List Value)(y:α)(hx:a.eval x=D (some ⟨g,0,none⟩) 1 1)(hnews:∀j u,us[j]?=some u->w.cell? ((⟨g,0,none⟩:Addr).add j)=some u)(hul:us.length=size)(h1:∀u∈us,u.oneCell'=true)(hR:R us y)(hn1:n<=1000000)(hb:bytes<=1000)(hbase:base<=w.heap.size)(h:∀g' c' w',ah base e size R w' (D (some ⟨g',0,none⟩) (n+1) c') (xs++[y])->w.grownBy w' (Value.slice A n c).ownBlock->K (a.put o.dst (D (some ⟨g',0,none⟩) (n+1) c')) w') :
  if Region.wanted o (yielded ops a.tmps)=true then Oper.wp P o a w K Q else E:=by
 subst hn;obtain⟨css,h2,h3,h4,h5⟩:=hown;have hbb:(xs.length+1)*bytes<=(xs.length+1)*1000:=wB _ hb;refine step_append_lies w hgd s x t ho base e i z size bytes ht hi hz hsize hby hzs hsz (D A xs.length c) xs.length css.flatten hs h4 ⟨g,0,none⟩ 1 1 us hx (by omega) hnews h1 (by omega) (by unfold maxLen;omega) (by omega) hbase w.heap.size rfl fun g' c' w' ho hg _ _=>h g' c' w' (ah.app (css2:=[us]) h2 (by simp) h3 (fun cs hc=>?_) h5 (fun k cs x hc hx=>?_) (by simpa using ho)) hg
 ·obtain rfl:cs=us:=by simpa using hc
  exact hul
 ·obtain rfl:k=0:=by have:=(zY.1 hx).1;simp at this;exact this
  simp at hc hx;subst hc;subst hx;exact hR
end Go.Proofs.YtkaajgoeahahpaaGreatDoor

