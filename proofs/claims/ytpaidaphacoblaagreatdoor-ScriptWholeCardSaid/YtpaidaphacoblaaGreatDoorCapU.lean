import Derived.Test.YtpaidaphacoblaaGreatDoorK22
set_option linter.all false
set_option maxRecDepth 100000
set_option maxHeartbeats 0
namespace Go.Proofs.YtpaidaphacoblaaGreatDoor
open Go.Value renaming int→B,slice→D
open Go.IntKind renaming i64→C
open Go.RowKit _root_.Go.Proofs.Tryz
theorem pM:aU 0:=by decide
theorem IX:aU 1:=by decide
theorem Jb:gT.wf ⟨0,0⟩:=⟨pM,pM⟩
theorem aI:cJ.wf ⟨0,0,0,0⟩:=⟨pM,pM,pM,pM⟩
theorem mv{t s q:Int}(h1:0<=t/\t<=30)(h2:0<=s/\s<=3)(h3:0<=q/\q<=10000):JF ⟨t,s,q⟩ :=
 ⟨⟨by constructor<;>(simp only;omega),by constructor<;>(simp only;omega),by constructor<;>(simp only;omega)⟩,by simp only;omega,by simp only;omega,by simp only;omega⟩
theorem dP(p:Nat)(v:Value)(s:dl)(most:Nat)(w:World)(h:bz w p)(hs:aR p w v s)(hw:ma s)(hm:most<=12) :
  Calls prog 17 #[.pointer (some ⟨p,0,none⟩),v,.int .i64 (most:Int)] w (iN p w fun v w'=>∃ys,ar w.heap.size w' v ys/\ys.length<=2*most):=by
 have HS0:Bx (aR p w v s/\ma s):=⟨⟨hs,hw⟩⟩
 obtain⟨iC,hiC,hc0,hc1,hc2⟩:=info_parts Tryz.infoCap;obtain⟨vP,vB,vX,rfl,hP,hB,hX,hnum⟩:=hs;obtain⟨AP,nP,cP,rfl,-⟩:=hP.open_;obtain⟨AB,nB,cB,rfl,-⟩:=hB.open_;obtain⟨AX,nX,cX,rfl,-⟩:=hX.open_;have hlt:=h.lt;obtain⟨w1,hw1⟩:=nm ((w.alloc (.cells #[.int .i64 s.num,D AP nP cP,D AB nB cB,D AX nX cX] 29)):World);have HF:Bx (Fr p w w1 [(w.heap.size,#[.int .i64 s.num,D AP nP cP,D AB nB cB,D AX nX cX],29)]):=⟨by rw[hw1];exact (Fr.start h).push _ _ rfl⟩
 clear hP hB hX hnum hw h;go_enter func17,ntmps17
 go_upto_region 2 with (fail)
 rw[<-hw1];clear hw1;go_wp2_with fail;refine (az p 0 most _ HF.out.tp (by omega) (by omega) (by omega) (by omega)).mono ?_;rintro e w2 ⟨v2,rfl,⟨r,rfl,hr1,hr2⟩,HT2,HX2⟩;have HF2:=bx (HF.out.step HX2 HT2);clear HF HT2 HX2;go_wp2_with fail;go_loopw [7,8] (fun s7 s8 wr=>∃(k no:Nat) (ys:List (aj×Value)) (Ao:Option Addr) (co:Nat),s7=D Ao no co/\s8=.int .i64 k/\ys.length<=no/\no<=ys.length/\no+2*k<=2*most/\Bx (ar w.heap.size wr (D Ao no co) ys/\Fr p w wr [(w.heap.size,#[.int .i64 s.num,D AP nP cP,D AB nB cB,D AX nX cX],29)])) (fun _ i _=>(intOf i).toNat)
 case atStart=>exact⟨r.toNat,0,[],none,0,rfl,by congr;omega,by simp,by simp,by omega,⟨⟨ar.nil _ _,HF2.out⟩⟩⟩
 case round =>
  obtain⟨k,no,ys,Ao,co,rfl,rfl,hy1,hy2,hk,HR⟩:=hrel;clear HF2;by_cases hk0:0<k
  ·go_upto_region 6 with (fail)
   go_cut [10] (fun s10 wx=>∃(g:Nat) (c:aj) (A:Option Addr) (cc:Nat),s10=.pointer (some ⟨g,0,none⟩)/\Bx (fw p w wx (w.heap.size,#[.int .i64 s.num,D AP nP cP,D AB nB cB,D AX nX cX],29) g (D Ao no co) ys c A cc))
   case first =>
    have HR6:Bx (Fr p w wr [(w.heap.size,#[.int .i64 s.num,D AP nP cP,D AB nB cB,D AX nX cX],29)]):=⟨HR.out.2⟩
    have HO6:Bx (ar w.heap.size wr (D Ao no co) ys):=⟨HR.out.1⟩
    refine zR 8 (fun w'=>w'.cell? ⟨w.heap.size,0,none⟩=some (.int .i64 s.num)/\w'.cell? ⟨w.heap.size,1,none⟩=some (D AP nP cP)/\w'.cell? ⟨w.heap.size,2,none⟩=some (D AB nB cB)/\w'.cell? ⟨w.heap.size,3,none⟩=some (D AX nX cX)) ?_;obtain⟨wd,hwd⟩:=nm (wr.drew:World);have hxd:ab wr wd:=by rw[hwd];exact (zE _).drew
    have HF0:=bx (HR6.out.ext hxd);have HO0:=bx (HO6.out.ext hxd);rw[<-hwd];clear hwd hxd;have kS0:wd.cell? ⟨w.heap.size,0,none⟩=some (.int .i64 s.num)/\wd.cell? ⟨w.heap.size,1,none⟩=some (D AP nP cP)/\wd.cell? ⟨w.heap.size,2,none⟩=some (D AB nB cB)/\wd.cell? ⟨w.heap.size,3,none⟩=some (D AX nX cX):=⟨(HF0.out.at_ 0 rfl).c 0 rfl,(HF0.out.at_ 0 rfl).c 1 rfl,(HF0.out.at_ 0 rfl).c 2 rfl,(HF0.out.at_ 0 rfl).c 3 rfl⟩
    refine zS 5 [(0,21),(1,22),(2,23),(3,24),(5,26)] kS0 ?_;iterate 5 refine zT ?_
    refine zN (an 4 7 (by kernel_rfl) rfl rfl (fun K hK=>?_) (fun K hK=>?_))
    ·go_simp;refine (my p _ s _ HF0.out.tp (HS0.out.1.xt HF0.out.xt) HS0.out.2).mono ?_;rintro e wq1 ⟨v1,rfl,⟨l,rfl,hl1⟩,HT1,HX1⟩;have HL:Bx (cJ.wf l):=⟨hl1⟩
     have HF1:=bx (HF0.out.step HX1 HT1);have HO1:=bx (HO0.out.xt HX1 hlt);clear hl1;have kS1:wq1.cell? ⟨w.heap.size,0,none⟩=some (.int .i64 s.num)/\wq1.cell? ⟨w.heap.size,1,none⟩=some (D AP nP cP)/\wq1.cell? ⟨w.heap.size,2,none⟩=some (D AB nB cB)/\wq1.cell? ⟨w.heap.size,3,none⟩=some (D AX nX cX):=⟨(HF1.out.at_ 0 rfl).c 0 rfl,(HF1.out.at_ 0 rfl).c 1 rfl,(HF1.out.at_ 0 rfl).c 2 rfl,(HF1.out.at_ 0 rfl).c 3 rfl⟩
     clear HF0 HO0 kS0 HX1 HT1;refine hK.out _ _ (fun _=>(kS1)) ?_;clear hK K;try simp only[kA]
     refine an 6 7 (by kernel_rfl) rfl rfl (fun K hK=>?_) (fun K hK=>?_)
     ·go_simp;refine (nR p _ s l no _ HF1.out.tp (HS0.out.1.xt HF1.out.xt) HL.out ⟨by omega,by omega⟩).mono ?_;rintro e wq2 ⟨v2,rfl,⟨t,s2,ct,b,A,cc,ch,rfl,ht1,ht2,hs1,hs2,hct1,hct2,hb,hch2⟩,HT2,HX2⟩;have hbs2:=HF1.out.xt.size;have HF2:=bx (HF1.out.step HX2 HT2);have HO2:=bx (HO1.out.xt HX2 hlt);have HC2:Bx (fu wq2 w.heap.size (D A ch.length cc) ch):=⟨hch2.base_ hbs2⟩
      clear hch2 hbs2;have kS2:wq2.cell? ⟨w.heap.size,0,none⟩=some (.int .i64 s.num)/\wq2.cell? ⟨w.heap.size,1,none⟩=some (D AP nP cP)/\wq2.cell? ⟨w.heap.size,2,none⟩=some (D AB nB cB)/\wq2.cell? ⟨w.heap.size,3,none⟩=some (D AX nX cX):=⟨(HF2.out.at_ 0 rfl).c 0 rfl,(HF2.out.at_ 0 rfl).c 1 rfl,(HF2.out.at_ 0 rfl).c 2 rfl,(HF2.out.at_ 0 rfl).c 3 rfl⟩
      clear HF1 HO1 kS1 HX2 HT2;refine hK.out _ _ (fun _=>(kS2)) ?_;clear hK K;try simp only[kA]
      refine zO 7 (fun K hK=>?_);go_simp;obtain⟨wq3,hwq3⟩:=nm ((wq2.alloc (.cells #[.int .i64 0,.int .i64 0,.int .i64 0,.int .i64 0,.string ⟨#[]⟩,.int .i64 0,D none 0 0,.int .i64 0,.int .i64 0,.int .i64 0,.int .i64 0,.int .i64 0,.int .i64 0] 41)):World);have hx3:ab wq2 wq3:=by rw[hwq3];exact (zE _).alloc _
      obtain⟨gk3,hg3⟩:=nm wq2.heap.size;have HF3:Bx (Fr p w wq3 [(w.heap.size,#[.int .i64 s.num,D AP nP cP,D AB nB cB,D AX nX cX],29),(gk3,#[.int .i64 0,.int .i64 0,.int .i64 0,.int .i64 0,.string ⟨#[]⟩,.int .i64 0,D none 0 0,.int .i64 0,.int .i64 0,.int .i64 0,.int .i64 0,.int .i64 0,.int .i64 0],41)]):=⟨by rw[hwq3];exact HF2.out.push _ _ hg3.symm⟩
      have HO3:=bx (HO2.out.ext hx3);have HC3:=bx (HC2.out.ext hx3);have HG3:Bx ((Value.slice Ao no co).ownBlock≠some gk3):=⟨fun e=>by have:=(HO2.out.own.own.lt _ e).2;omega⟩
      rw[<-hwq3,<-hg3];clear hwq3 hg3 hx3;have kS3:wq3.cell? ⟨w.heap.size,0,none⟩=some (.int .i64 s.num)/\wq3.cell? ⟨w.heap.size,1,none⟩=some (D AP nP cP)/\wq3.cell? ⟨w.heap.size,2,none⟩=some (D AB nB cB)/\wq3.cell? ⟨w.heap.size,3,none⟩=some (D AX nX cX):=⟨(HF3.out.at_ 0 rfl).c 0 rfl,(HF3.out.at_ 0 rfl).c 1 rfl,(HF3.out.at_ 0 rfl).c 2 rfl,(HF3.out.at_ 0 rfl).c 3 rfl⟩
      clear HF2 HO2 HC2 kS2;refine hK.out _ _ (fun _=>(kS3)) ?_;clear hK K;try simp only[kA]
      refine zO 8 (fun K hK=>?_);obtain⟨z0,z1,z2,z3,z4,z5,z6,z7,z8,z9,z10,z11,z12⟩:=(HF3.out.at_ 1 rfl).p13 rfl;have f0:=(HF3.out.at_ 1 rfl).froz;have f1:=f0;have f2:=f0;have f3:=f0;have f4:=f0;have f5:=f0;have f6:=f0;have f7:=f0;have f8:=f0;have f9:=f0;have f10:=f0;have f11:=f0;have f12:=f0;go_simp;refine hK.out _ _ (fun h=>absurd rfl h) ?_;clear hK K;refine zD ?_;go_wp2_with fail;go_meet
      rw[<-Bl b];have e1:=HF3.out.setAll 1 rfl [.int .i64 t,.int .i64 s2,.int .i64 no,.int .i64 1,.string (ba (bl b)),.int .i64 ct,D A ch.length cc,.int .i64 0,.int .i64 0,.int .i64 0,.int .i64 0,.int .i64 0,.int .i64 0] rfl;have e2:=HO3.out.sets (HF3.out.at_ 1 rfl) (by decide) HG3.out 0 [.int .i64 t,.int .i64 s2,.int .i64 no,.int .i64 1,.string (ba (bl b)),.int .i64 ct,D A ch.length cc,.int .i64 0,.int .i64 0,.int .i64 0,.int .i64 0,.int .i64 0,.int .i64 0];have e3:=eZ HC3.out (HF3.out.at_ 1 rfl) (by decide) 0 [.int .i64 t,.int .i64 s2,.int .i64 no,.int .i64 1,.string (ba (bl b)),.int .i64 ct,D A ch.length cc,.int .i64 0,.int .i64 0,.int .i64 0,.int .i64 0,.int .i64 0,.int .i64 0];have e4:iu ⟨⟨t,s2,no⟩,1,bl b,ct,ch,⟨0,0⟩,⟨0,0,0,0⟩⟩:=⟨mv ⟨by omega,by omega⟩ ⟨by omega,by omega⟩ ⟨by omega,by omega⟩,IX,by show (bl b).length<=1000;rw[aO];exact hb,⟨by simp only;omega,by simp only;omega⟩,Jb,aI⟩
      exact⟨gk3,⟨⟨t,s2,no⟩,1,bl b,ct,ch,⟨0,0⟩,⟨0,0,0,0⟩⟩,A,cc,rfl,⟨⟨e1,e2,e3,e4,HG3.out⟩⟩⟩
     ·go_simp;obtain⟨wq4,hwq4⟩:=nm ((wq1.alloc (.cells #[.int .i64 0,.int .i64 0,.int .i64 0,.int .i64 0,.string ⟨#[]⟩,.int .i64 0,D none 0 0,.int .i64 0,.int .i64 0,.int .i64 0,.int .i64 0,.int .i64 0,.int .i64 0] 41)):World);have hx4:ab wq1 wq4:=by rw[hwq4];exact (zE _).alloc _
      obtain⟨gk4,hg4⟩:=nm wq1.heap.size;have HF4:Bx (Fr p w wq4 [(w.heap.size,#[.int .i64 s.num,D AP nP cP,D AB nB cB,D AX nX cX],29),(gk4,#[.int .i64 0,.int .i64 0,.int .i64 0,.int .i64 0,.string ⟨#[]⟩,.int .i64 0,D none 0 0,.int .i64 0,.int .i64 0,.int .i64 0,.int .i64 0,.int .i64 0,.int .i64 0],41)]):=⟨by rw[hwq4];exact HF1.out.push _ _ hg4.symm⟩
      have HO4:=bx (HO1.out.ext hx4);have HG4:Bx ((Value.slice Ao no co).ownBlock≠some gk4):=⟨fun e=>by have:=(HO1.out.own.own.lt _ e).2;omega⟩
      rw[<-hwq4,<-hg4];clear hwq4 hg4 hx4;have kS4:wq4.cell? ⟨w.heap.size,0,none⟩=some (.int .i64 s.num)/\wq4.cell? ⟨w.heap.size,1,none⟩=some (D AP nP cP)/\wq4.cell? ⟨w.heap.size,2,none⟩=some (D AB nB cB)/\wq4.cell? ⟨w.heap.size,3,none⟩=some (D AX nX cX):=⟨(HF4.out.at_ 0 rfl).c 0 rfl,(HF4.out.at_ 0 rfl).c 1 rfl,(HF4.out.at_ 0 rfl).c 2 rfl,(HF4.out.at_ 0 rfl).c 3 rfl⟩
      clear HF1 HO1 kS1;refine hK.out _ _ (fun _=>(kS4)) ?_;clear hK K;try simp only[kA]
      refine zO 6 (fun K hK=>?_);go_simp;refine (nR p _ s l no _ HF4.out.tp (HS0.out.1.xt HF4.out.xt) HL.out ⟨by omega,by omega⟩).mono ?_;rintro e wq5 ⟨v5,rfl,⟨t,s2,ct,b,A,cc,ch,rfl,ht1,ht2,hs1,hs2,hct1,hct2,hb,hch5⟩,HT5,HX5⟩;have hbs5:=HF4.out.xt.size;have HO5:=bx (HO4.out.xt HX5 hlt);have HF5:=bx (HF4.out.step HX5 HT5);have HG5:Bx ((Value.slice Ao no co).ownBlock≠some gk4):=⟨HG4.out⟩
      have HC5:Bx (fu wq5 w.heap.size (D A ch.length cc) ch):=⟨hch5.base_ hbs5⟩
      clear hch5 hbs5;have kS5:wq5.cell? ⟨w.heap.size,0,none⟩=some (.int .i64 s.num)/\wq5.cell? ⟨w.heap.size,1,none⟩=some (D AP nP cP)/\wq5.cell? ⟨w.heap.size,2,none⟩=some (D AB nB cB)/\wq5.cell? ⟨w.heap.size,3,none⟩=some (D AX nX cX):=⟨(HF5.out.at_ 0 rfl).c 0 rfl,(HF5.out.at_ 0 rfl).c 1 rfl,(HF5.out.at_ 0 rfl).c 2 rfl,(HF5.out.at_ 0 rfl).c 3 rfl⟩
      clear HO4 HF4 HG4 kS4 HX5 HT5;refine hK.out _ _ (fun _=>(kS5)) ?_;clear hK K;try simp only[kA]
      refine zO 8 (fun K hK=>?_);obtain⟨z0,z1,z2,z3,z4,z5,z6,z7,z8,z9,z10,z11,z12⟩:=(HF5.out.at_ 1 rfl).p13 rfl;have f0:=(HF5.out.at_ 1 rfl).froz;have f1:=f0;have f2:=f0;have f3:=f0;have f4:=f0;have f5:=f0;have f6:=f0;have f7:=f0;have f8:=f0;have f9:=f0;have f10:=f0;have f11:=f0;have f12:=f0;go_simp;refine hK.out _ _ (fun h=>absurd rfl h) ?_;clear hK K;refine zD ?_;go_wp2_with fail;go_meet
      rw[<-Bl b];have e1:=HF5.out.setAll 1 rfl [.int .i64 t,.int .i64 s2,.int .i64 no,.int .i64 1,.string (ba (bl b)),.int .i64 ct,D A ch.length cc,.int .i64 0,.int .i64 0,.int .i64 0,.int .i64 0,.int .i64 0,.int .i64 0] rfl;have e2:=HO5.out.sets (HF5.out.at_ 1 rfl) (by decide) HG5.out 0 [.int .i64 t,.int .i64 s2,.int .i64 no,.int .i64 1,.string (ba (bl b)),.int .i64 ct,D A ch.length cc,.int .i64 0,.int .i64 0,.int .i64 0,.int .i64 0,.int .i64 0,.int .i64 0];have e3:=eZ HC5.out (HF5.out.at_ 1 rfl) (by decide) 0 [.int .i64 t,.int .i64 s2,.int .i64 no,.int .i64 1,.string (ba (bl b)),.int .i64 ct,D A ch.length cc,.int .i64 0,.int .i64 0,.int .i64 0,.int .i64 0,.int .i64 0,.int .i64 0];have e4:iu ⟨⟨t,s2,no⟩,1,bl b,ct,ch,⟨0,0⟩,⟨0,0,0,0⟩⟩:=⟨mv ⟨by omega,by omega⟩ ⟨by omega,by omega⟩ ⟨by omega,by omega⟩,IX,by show (bl b).length<=1000;rw[aO];exact hb,⟨by simp only;omega,by simp only;omega⟩,Jb,aI⟩
      exact⟨gk4,⟨⟨t,s2,no⟩,1,bl b,ct,ch,⟨0,0⟩,⟨0,0,0,0⟩⟩,A,cc,rfl,⟨⟨e1,e2,e3,e4,HG5.out⟩⟩⟩
    ·go_simp;obtain⟨wq6,hwq6⟩:=nm ((wd.alloc (.cells #[.int .i64 0,.int .i64 0,.int .i64 0,.int .i64 0,.string ⟨#[]⟩,.int .i64 0,D none 0 0,.int .i64 0,.int .i64 0,.int .i64 0,.int .i64 0,.int .i64 0,.int .i64 0] 41)):World);have hx6:ab wd wq6:=by rw[hwq6];exact (zE _).alloc _
     obtain⟨gk6,hg6⟩:=nm wd.heap.size;have HF6:Bx (Fr p w wq6 [(w.heap.size,#[.int .i64 s.num,D AP nP cP,D AB nB cB,D AX nX cX],29),(gk6,#[.int .i64 0,.int .i64 0,.int .i64 0,.int .i64 0,.string ⟨#[]⟩,.int .i64 0,D none 0 0,.int .i64 0,.int .i64 0,.int .i64 0,.int .i64 0,.int .i64 0,.int .i64 0],41)]):=⟨by rw[hwq6];exact HF0.out.push _ _ hg6.symm⟩
     have HO6:=bx (HO0.out.ext hx6);have HG6:Bx ((Value.slice Ao no co).ownBlock≠some gk6):=⟨fun e=>by have:=(HO0.out.own.own.lt _ e).2;omega⟩
     rw[<-hwq6,<-hg6];clear hwq6 hg6 hx6;have kS6:wq6.cell? ⟨w.heap.size,0,none⟩=some (.int .i64 s.num)/\wq6.cell? ⟨w.heap.size,1,none⟩=some (D AP nP cP)/\wq6.cell? ⟨w.heap.size,2,none⟩=some (D AB nB cB)/\wq6.cell? ⟨w.heap.size,3,none⟩=some (D AX nX cX):=⟨(HF6.out.at_ 0 rfl).c 0 rfl,(HF6.out.at_ 0 rfl).c 1 rfl,(HF6.out.at_ 0 rfl).c 2 rfl,(HF6.out.at_ 0 rfl).c 3 rfl⟩
     clear HF0 HO0 kS0;refine hK.out _ _ (fun _=>(kS6)) ?_;clear hK K;try simp only[kA]
     refine zO 4 (fun K hK=>?_);go_simp;refine (my p _ s _ HF6.out.tp (HS0.out.1.xt HF6.out.xt) HS0.out.2).mono ?_;rintro e wq7 ⟨v7,rfl,⟨l,rfl,hl7⟩,HT7,HX7⟩;have HL:Bx (cJ.wf l):=⟨hl7⟩
     have HO7:=bx (HO6.out.xt HX7 hlt);have HF7:=bx (HF6.out.step HX7 HT7);have HG7:Bx ((Value.slice Ao no co).ownBlock≠some gk6):=⟨HG6.out⟩
     clear hl7;have kS7:wq7.cell? ⟨w.heap.size,0,none⟩=some (.int .i64 s.num)/\wq7.cell? ⟨w.heap.size,1,none⟩=some (D AP nP cP)/\wq7.cell? ⟨w.heap.size,2,none⟩=some (D AB nB cB)/\wq7.cell? ⟨w.heap.size,3,none⟩=some (D AX nX cX):=⟨(HF7.out.at_ 0 rfl).c 0 rfl,(HF7.out.at_ 0 rfl).c 1 rfl,(HF7.out.at_ 0 rfl).c 2 rfl,(HF7.out.at_ 0 rfl).c 3 rfl⟩
     clear HO6 HF6 HG6 kS6 HX7 HT7;refine hK.out _ _ (fun _=>(kS7)) ?_;clear hK K;try simp only[kA]
     refine zO 6 (fun K hK=>?_);go_simp;refine (nR p _ s l no _ HF7.out.tp (HS0.out.1.xt HF7.out.xt) HL.out ⟨by omega,by omega⟩).mono ?_;rintro e wq8 ⟨v8,rfl,⟨t,s2,ct,b,A,cc,ch,rfl,ht1,ht2,hs1,hs2,hct1,hct2,hb,hch8⟩,HT8,HX8⟩;have hbs8:=HF7.out.xt.size;have HO8:=bx (HO7.out.xt HX8 hlt);have HF8:=bx (HF7.out.step HX8 HT8);have HG8:Bx ((Value.slice Ao no co).ownBlock≠some gk6):=⟨HG7.out⟩
     have HC8:Bx (fu wq8 w.heap.size (D A ch.length cc) ch):=⟨hch8.base_ hbs8⟩
     clear hch8 hbs8;have kS8:wq8.cell? ⟨w.heap.size,0,none⟩=some (.int .i64 s.num)/\wq8.cell? ⟨w.heap.size,1,none⟩=some (D AP nP cP)/\wq8.cell? ⟨w.heap.size,2,none⟩=some (D AB nB cB)/\wq8.cell? ⟨w.heap.size,3,none⟩=some (D AX nX cX):=⟨(HF8.out.at_ 0 rfl).c 0 rfl,(HF8.out.at_ 0 rfl).c 1 rfl,(HF8.out.at_ 0 rfl).c 2 rfl,(HF8.out.at_ 0 rfl).c 3 rfl⟩
     clear HO7 HF7 HG7 kS7 HX8 HT8;refine hK.out _ _ (fun _=>(kS8)) ?_;clear hK K;try simp only[kA]
     refine zO 8 (fun K hK=>?_);obtain⟨z0,z1,z2,z3,z4,z5,z6,z7,z8,z9,z10,z11,z12⟩:=(HF8.out.at_ 1 rfl).p13 rfl;have f0:=(HF8.out.at_ 1 rfl).froz;have f1:=f0;have f2:=f0;have f3:=f0;have f4:=f0;have f5:=f0;have f6:=f0;have f7:=f0;have f8:=f0;have f9:=f0;have f10:=f0;have f11:=f0;have f12:=f0;go_simp;refine hK.out _ _ (fun h=>absurd rfl h) ?_;clear hK K;refine zD ?_;go_wp2_with fail;go_meet
     rw[<-Bl b];have e1:=HF8.out.setAll 1 rfl [.int .i64 t,.int .i64 s2,.int .i64 no,.int .i64 1,.string (ba (bl b)),.int .i64 ct,D A ch.length cc,.int .i64 0,.int .i64 0,.int .i64 0,.int .i64 0,.int .i64 0,.int .i64 0] rfl;have e2:=HO8.out.sets (HF8.out.at_ 1 rfl) (by decide) HG8.out 0 [.int .i64 t,.int .i64 s2,.int .i64 no,.int .i64 1,.string (ba (bl b)),.int .i64 ct,D A ch.length cc,.int .i64 0,.int .i64 0,.int .i64 0,.int .i64 0,.int .i64 0,.int .i64 0];have e3:=eZ HC8.out (HF8.out.at_ 1 rfl) (by decide) 0 [.int .i64 t,.int .i64 s2,.int .i64 no,.int .i64 1,.string (ba (bl b)),.int .i64 ct,D A ch.length cc,.int .i64 0,.int .i64 0,.int .i64 0,.int .i64 0,.int .i64 0,.int .i64 0];have e4:iu ⟨⟨t,s2,no⟩,1,bl b,ct,ch,⟨0,0⟩,⟨0,0,0,0⟩⟩:=⟨mv ⟨by omega,by omega⟩ ⟨by omega,by omega⟩ ⟨by omega,by omega⟩,IX,by show (bl b).length<=1000;rw[aO];exact hb,⟨by simp only;omega,by simp only;omega⟩,Jb,aI⟩
     exact⟨gk6,⟨⟨t,s2,no⟩,1,bl b,ct,ch,⟨0,0⟩,⟨0,0,0,0⟩⟩,A,cc,rfl,⟨⟨e1,e2,e3,e4,HG8.out⟩⟩⟩
   case rest =>
   obtain⟨g,c,A,cc,rfl,H6⟩:=hcut;clear HR;go_upto_region 7 with (fail)
   go_cut [34] (fun s34 wx=>∃b:Bool,s34=.bool b/\Hid (b=true->0<no)/\Bx (fw p w wx (w.heap.size,#[.int .i64 s.num,D AP nP cP,D AB nB cB,D AX nX cX],29) g (D Ao no co) ys c A cc))
   case first =>
    by_cases h0:0<no
    ·go_wp2_with fail;refine (fe p 4 _ H6.out.fr.tp (by omega) (by omega)).mono ?_;rintro e w5 ⟨v5,rfl,⟨b5,rfl⟩,HT5,HX5⟩;go_wp2_with fail;go_meet
     exact⟨b5,rfl,(fun _=>h0),⟨H6.out.step HX5 HT5⟩⟩
    ·go_wp2_with fail;go_meet
     exact⟨false,rfl,(fun h=>by cases h),H6⟩
   case rest =>
   obtain⟨b7,rfl,hb7,H7⟩:=hcut;clear H6;go_upto_if 34 with (fail)
   go_cut [] (fun wx=>∃(c:aj) (A:Option Addr) (cc:Nat),Bx (fw p w wx (w.heap.size,#[.int .i64 s.num,D AP nP cP,D AB nB cB,D AX nX cX],29) g (D Ao no co) ys c A cc))
   case first =>
    cases b7 with
    |false =>
     go_wp2_with fail;go_meet
     exact⟨c,A,cc,H7⟩
    |true =>
     have h0:=hb7.out rfl;obtain⟨gr,co',hv,-⟩:=di (H7.out.row.own) (by omega);injection hv with hA hB hC;subst hA;clear hB hC;go_wp2_with fail;refine (am p no _ H7.out.fr.tp (by omega)).mono ?_;rintro e w8 ⟨v8,rfl,⟨r8,rfl,hr81,hr82⟩,HT8,HX8⟩;obtain⟨r8,rfl⟩:=zG hr81;have hrn:r8<no:=by omega
     have H8:=bx (H7.out.step HX8 HT8);clear H7 HT8 HX8;obtain⟨c8,A8,cc8,hy8,hch8,hok8,e0,e1,e2,e3,e4,e5,e6,e7,e8,e9,e10,e11,e12⟩:=H8.out.row.cells (k:=r8) (by omega);obtain⟨z0,z1,z2,z3,z4,z5,z6,z7,z8,z9,z10,z11,z12⟩:=H8.out.cells;have f0:=(H8.out.fr.at_ 1 rfl).froz;have f1:=f0;have f2:=f0;have f3:=f0;have f4:=f0;have f5:=f0;have f6:=f0;have f7:=f0;have f8:=f0;have f9:=f0;have f10:=f0;have f11:=f0;have f12:=f0;have HC8:Bx (fu w8 w.heap.size (D A8 c8.ch.length cc8) c8.ch/\iu c8):=⟨⟨hch8,hok8⟩⟩
     clear hy8 hch8 hok8;have H9:Bx (fw p w (be w8 g 0 [.int .i64 c8.st.t,.int .i64 c8.st.s,.int .i64 c8.st.q,.int .i64 c8.kind,.string (ba c8.str),.int .i64 c8.cont,D A8 c8.ch.length cc8,.int .i64 c8.tgt.s,.int .i64 c8.tgt.q,.int .i64 c8.lab.p,.int .i64 c8.lab.c,.int .i64 c8.lab.g,.int .i64 c8.lab.v]) (w.heap.size,#[.int .i64 s.num,D AP nP cP,D AB nB cB,D AX nX cX],29) g (D (some ⟨gr,0,none⟩) no co) ys c8 A8 cc8) :=
      ⟨H8.out.upd 0 _ (H8.out.fr.setAll 1 rfl [.int .i64 c8.st.t,.int .i64 c8.st.s,.int .i64 c8.st.q,.int .i64 c8.kind,.string (ba c8.str),.int .i64 c8.cont,D A8 c8.ch.length cc8,.int .i64 c8.tgt.s,.int .i64 c8.tgt.q,.int .i64 c8.lab.p,.int .i64 c8.lab.c,.int .i64 c8.lab.g,.int .i64 c8.lab.v] rfl) HC8.out.1 HC8.out.2⟩
     clear H8;go_wp2_with fail;refine (az p 0 24 _ H9.out.fr.tp (by omega) (by omega) (by omega) (by omega)).mono ?_;rintro e w10 ⟨v10,rfl,⟨t,rfl,ht1,ht2⟩,HT10,HX10⟩;have H10:=bx (H9.out.step HX10 HT10);clear H9 HT10 HX10 HC8 e0 e1 e2 e3 e4 e5 e6 e7 e8 e9 e10 e11 e12 z0 z1 z2 z3 z4 z5 z6 z7 z8 z9 z10 z11 z12 f0 f1 f2 f3 f4 f5 f6 f7 f8 f9 f10 f11 f12;go_wp2_with fail;refine (az p 1 2 _ H10.out.fr.tp (by omega) (by omega) (by omega) (by omega)).mono ?_;rintro e w11 ⟨v11,rfl,⟨t2,rfl,hs1,hs2⟩,HT11,HX11⟩;have H11:=bx (H10.out.step HX11 HT11);clear H10 HT11 HX11;obtain⟨z0,z1,z2,-⟩:=H11.out.cells;have f0:=(H11.out.fr.at_ 1 rfl).froz;have f1:=f0;have f2:=f0;go_wp2_with fail;go_meet
     exact⟨⟨⟨t,t2,no⟩,c8.kind,c8.str,c8.cont,c8.ch,c8.tgt,c8.lab⟩,A8,cc8,⟨H11.out.upd (c':=⟨⟨t,t2,no⟩,c8.kind,c8.str,c8.cont,c8.ch,c8.tgt,c8.lab⟩) 0 [.int .i64 t,.int .i64 t2,.int .i64 no] (((H11.out.fr.set 1 rfl 0 _).set 1 rfl 1 _).set 1 rfl 2 _) H11.out.ch ⟨mv ⟨by omega,by omega⟩ ⟨by omega,by omega⟩ ⟨by omega,by omega⟩,H11.out.ok.kind,H11.out.ok.str,H11.out.ok.cont,H11.out.ok.tgt,H11.out.ok.lab⟩⟩⟩
   case rest =>
   obtain⟨c2,A2,cc2,H7b⟩:=hcut;clear H7 hb7;go_upto_region 10 with (fail)
   go_cut [55] (fun s55 wx=>∃b:Bool,s55=.bool b/\Hid (b=true->0<no)/\Bx (fw p w wx (w.heap.size,#[.int .i64 s.num,D AP nP cP,D AB nB cB,D AX nX cX],29) g (D Ao no co) ys c2 A2 cc2))
   case first =>
    by_cases h0:0<no
    ·go_wp2_with fail;refine (fe p 5 _ H7b.out.fr.tp (by omega) (by omega)).mono ?_;rintro e w5 ⟨v5,rfl,⟨b5,rfl⟩,HT5,HX5⟩;go_wp2_with fail;go_meet
     exact⟨b5,rfl,(fun _=>h0),⟨H7b.out.step HX5 HT5⟩⟩
    ·go_wp2_with fail;go_meet
     exact⟨false,rfl,(fun h=>by cases h),H7b⟩
   case rest =>
   obtain⟨b10,rfl,hb10,H10⟩:=hcut;clear H7b;go_upto_if 55 with (fail)
   go_cut [] (fun wx=>∃(c:aj) (A:Option Addr) (cc:Nat),Bx (fw p w wx (w.heap.size,#[.int .i64 s.num,D AP nP cP,D AB nB cB,D AX nX cX],29) g (D Ao no co) ys c A cc))
   case first =>
    cases b10 with
    |false =>
     go_wp2_with fail;go_meet
     exact⟨c2,A2,cc2,H10⟩
    |true =>
     have h0:=hb10.out rfl;obtain⟨gr,co',hv,-⟩:=di (H10.out.row.own) (by omega);injection hv with hA hB hC;subst hA;clear hB hC;go_wp2_with fail;refine (am p no _ H10.out.fr.tp (by omega)).mono ?_;rintro e w8 ⟨v8,rfl,⟨r8,rfl,hr81,hr82⟩,HT8,HX8⟩;obtain⟨r8,rfl⟩:=zG hr81;have hrn:r8<no:=by omega
     have H8:=bx (H10.out.step HX8 HT8);clear H10 HT8 HX8;obtain⟨c8,A8,cc8,hy8,hch8,hok8,e0,e1,e2,-⟩:=H8.out.row.cells (k:=r8) (by omega);have HI8:Bx (aU c8.st.s/\aU c8.st.q):=⟨⟨hok8.st.1.2.1,hok8.st.1.2.2⟩⟩
     clear hy8 hch8 hok8;go_upto_region 12 with (fail)
     obtain⟨w9,hw9⟩:=nm ((w8.alloc (.cells #[.int .i64 c8.st.t,.int .i64 c8.st.s,.int .i64 c8.st.q] 35)):World);have hx9:ab w8 w9:=by rw[hw9];exact (zE _).alloc _
     have H9:=bx (H8.out.ext hx9);obtain⟨g2,hg2⟩:=nm w8.heap.size;have hg2p:g2≠p:=by have:=H8.out.fr.lt;omega
     have B9:Bx (Bk w9 g2 #[.int .i64 c8.st.t,.int .i64 c8.st.s,.int .i64 c8.st.q] 35):=⟨by rw[hw9,hg2];exact Bk.new w8 _ _⟩
     rw[<-hw9,<-hg2];clear hw9 hg2 hx9 H8 e0 e1 e2;go_cut [] (fun wx=>∃(c:aj) (A:Option Addr) (cc:Nat),Bx (fw p w wx (w.heap.size,#[.int .i64 s.num,D AP nP cP,D AB nB cB,D AX nX cX],29) g (D (some ⟨gr,0,none⟩) no co) ys c A cc))
     case first =>
      refine zR 13 (fun w'=>w'.cell? ⟨g2,1,none⟩=some (.int .i64 c8.st.s)/\w'.cell? ⟨g2,2,none⟩=some (.int .i64 c8.st.q)) ?_;obtain⟨wd,hwd⟩:=nm (w9.drew:World);have hxd:ab w9 wd:=by rw[hwd];exact (zE _).drew
      have H0:=bx (H9.out.ext hxd);have B0:=bx (B9.out.ext hxd);rw[<-hwd];clear hwd hxd;have kS0:wd.cell? ⟨g2,1,none⟩=some (.int .i64 c8.st.s)/\wd.cell? ⟨g2,2,none⟩=some (.int .i64 c8.st.q):=⟨B0.out.c 1 rfl,B0.out.c 2 rfl⟩
      refine zS 8 [(0,64),(2,66),(4,68),(7,71),(9,73),(8,72),(10,74),(11,75)] kS0 ?_;iterate 8 refine zT ?_
      refine zN (an 1 5 (by kernel_rfl) rfl rfl (fun K hK=>?_) (fun K hK=>?_))
      ·go_simp;refine (az p 0 30 _ H0.out.fr.tp (by omega) (by omega) (by omega) (by omega)).mono ?_;rintro e wp1 ⟨v1,rfl,⟨t,rfl,ht1,ht2⟩,HT1,HX1⟩;have H1:=bx (H0.out.step HX1 HT1);have B1:=bx (B0.out.xt HX1 hg2p);have kS1:wp1.cell? ⟨g2,1,none⟩=some (.int .i64 c8.st.s)/\wp1.cell? ⟨g2,2,none⟩=some (.int .i64 c8.st.q):=⟨B1.out.c 1 rfl,B1.out.c 2 rfl⟩
       clear H0 B0 kS0 HX1 HT1;refine hK.out _ _ (fun _=>(kS1)) ?_;clear hK K;try simp only[kA]
       refine zS 1 [(3,67)] kS1 ?_;refine zT ?_;refine zN (zO 5 (fun K hK=>?_));go_simp;obtain⟨wp2,hwp2⟩:=nm ((wp1.alloc (.cells #[.int .i64 2,.int .i64 3,.int .i64 3,.int .i64 7] 3)):World);have hx2:ab wp1 wp2:=by rw[hwp2];exact (zE _).alloc _
       obtain⟨gk2,hg2⟩:=nm wp1.heap.size;have H2:=bx (H1.out.ext hx2);have B2:=bx (B1.out.ext hx2);have I2:Bx (ak p wp2 (D (some ⟨gk2,0,none⟩) 4 4) [2,3,3,7]):=⟨by rw[hwp2,hg2];exact ak.lit [2,3,3,7] _ H1.out.fr.lt (by decide) (by decide)⟩
       rw[<-hwp2,<-hg2];clear hwp2 hg2 hx2;have kS2:wp2.cell? ⟨g2,1,none⟩=some (.int .i64 c8.st.s)/\wp2.cell? ⟨g2,2,none⟩=some (.int .i64 c8.st.q):=⟨B2.out.c 1 rfl,B2.out.c 2 rfl⟩
       clear H1 B1 kS1;refine hK.out _ _ (fun _=>(kS2)) ?_;clear hK K;try simp only[kA]
       refine zO 6 (fun K hK=>?_);go_simp;refine (dt p _ [2,3,3,7] _ H2.out.fr.tp I2.out (by simp)).mono ?_;rintro e wp3 ⟨v3,rfl,⟨kd,rfl,hkd3⟩,HT3,HX3⟩;have hkb:aU kd:=(by decide:∀x∈([2,3,3,7]:List Int),aU x) kd hkd3;have HK:Bx (aU kd):=⟨hkb⟩
       have H3:=bx (H2.out.step HX3 HT3);have B3:=bx (B2.out.xt HX3 hg2p);have I3:=bx (I2.out.xt HX3);clear hkd3 hkb;have kS3:wp3.cell? ⟨g2,1,none⟩=some (.int .i64 c8.st.s)/\wp3.cell? ⟨g2,2,none⟩=some (.int .i64 c8.st.q):=⟨B3.out.c 1 rfl,B3.out.c 2 rfl⟩
       clear H2 B2 I2 kS2 HX3 HT3;refine hK.out _ _ (fun _=>(kS3)) ?_;clear hK K;try simp only[kA]
       refine zS 1 [(12,76)] kS3 ?_;refine zT ?_;refine zN (zO 13 (fun K hK=>?_));obtain⟨z0,z1,z2,z3,z4,z5,z6,z7,z8,z9,z10,z11,z12⟩:=H3.out.cells;have f0:=(H3.out.fr.at_ 1 rfl).froz;have f1:=f0;have f2:=f0;have f3:=f0;have f4:=f0;have f5:=f0;have f6:=f0;have f7:=f0;have f8:=f0;have f9:=f0;have f10:=f0;have f11:=f0;have f12:=f0;go_simp;refine hK.out _ _ (fun h=>absurd rfl h) ?_;clear hK K;refine zD ?_;go_wp2_with fail;go_meet
       exact⟨⟨⟨t,0,no⟩,kd,[],0,[],⟨c8.st.s,c8.st.q⟩,⟨0,0,0,0⟩⟩,none,0,⟨H3.out.upd (c':=⟨⟨t,0,no⟩,kd,[],0,[],⟨c8.st.s,c8.st.q⟩,⟨0,0,0,0⟩⟩) (A':=none) (cc':=0) 0 [.int .i64 t,.int .i64 0,.int .i64 no,.int .i64 kd,.string (ba []),.int .i64 0,D none 0 0,.int .i64 c8.st.s,.int .i64 c8.st.q,.int .i64 0,.int .i64 0,.int .i64 0,.int .i64 0] (H3.out.fr.setAll 1 rfl [.int .i64 t,.int .i64 0,.int .i64 no,.int .i64 kd,.string (ba []),.int .i64 0,D none 0 0,.int .i64 c8.st.s,.int .i64 c8.st.q,.int .i64 0,.int .i64 0,.int .i64 0,.int .i64 0] rfl) (fu.nil _ _) ⟨mv ⟨by omega,by omega⟩ ⟨by omega,by omega⟩ ⟨by omega,by omega⟩,HK.out,by simp,pM,HI8.out,aI⟩⟩⟩
      ·go_simp;obtain⟨wp4,hwp4⟩:=nm ((wd.alloc (.cells #[.int .i64 2,.int .i64 3,.int .i64 3,.int .i64 7] 3)):World);have hx4:ab wd wp4:=by rw[hwp4];exact (zE _).alloc _
       obtain⟨gk4,hg4⟩:=nm wd.heap.size;have H4:=bx (H0.out.ext hx4);have B4:=bx (B0.out.ext hx4);have I4:Bx (ak p wp4 (D (some ⟨gk4,0,none⟩) 4 4) [2,3,3,7]):=⟨by rw[hwp4,hg4];exact ak.lit [2,3,3,7] _ H0.out.fr.lt (by decide) (by decide)⟩
       rw[<-hwp4,<-hg4];clear hwp4 hg4 hx4;have kS4:wp4.cell? ⟨g2,1,none⟩=some (.int .i64 c8.st.s)/\wp4.cell? ⟨g2,2,none⟩=some (.int .i64 c8.st.q):=⟨B4.out.c 1 rfl,B4.out.c 2 rfl⟩
       clear H0 B0 kS0;refine hK.out _ _ (fun _=>(kS4)) ?_;clear hK K;try simp only[kA]
       refine zO 1 (fun K hK=>?_);go_simp;refine (az p 0 30 _ H4.out.fr.tp (by omega) (by omega) (by omega) (by omega)).mono ?_;rintro e wp5 ⟨v5,rfl,⟨t,rfl,ht1,ht2⟩,HT5,HX5⟩;have H5:=bx (H4.out.step HX5 HT5);have B5:=bx (B4.out.xt HX5 hg2p);have I5:=bx (I4.out.xt HX5);have kS5:wp5.cell? ⟨g2,1,none⟩=some (.int .i64 c8.st.s)/\wp5.cell? ⟨g2,2,none⟩=some (.int .i64 c8.st.q):=⟨B5.out.c 1 rfl,B5.out.c 2 rfl⟩
       clear H4 B4 I4 kS4 HX5 HT5;refine hK.out _ _ (fun _=>(kS5)) ?_;clear hK K;try simp only[kA]
       refine zS 1 [(3,67)] kS5 ?_;refine zT ?_;refine zN (zO 6 (fun K hK=>?_));go_simp;refine (dt p _ [2,3,3,7] _ H5.out.fr.tp I5.out (by simp)).mono ?_;rintro e wp6 ⟨v6,rfl,⟨kd,rfl,hkd6⟩,HT6,HX6⟩;have hkb:aU kd:=(by decide:∀x∈([2,3,3,7]:List Int),aU x) kd hkd6;have HK:Bx (aU kd):=⟨hkb⟩
       have H6:=bx (H5.out.step HX6 HT6);have B6:=bx (B5.out.xt HX6 hg2p);have I6:=bx (I5.out.xt HX6);clear hkd6 hkb;have kS6:wp6.cell? ⟨g2,1,none⟩=some (.int .i64 c8.st.s)/\wp6.cell? ⟨g2,2,none⟩=some (.int .i64 c8.st.q):=⟨B6.out.c 1 rfl,B6.out.c 2 rfl⟩
       clear H5 B5 I5 kS5 HX6 HT6;refine hK.out _ _ (fun _=>(kS6)) ?_;clear hK K;try simp only[kA]
       refine zS 1 [(12,76)] kS6 ?_;refine zT ?_;refine zN (zO 13 (fun K hK=>?_));obtain⟨z0,z1,z2,z3,z4,z5,z6,z7,z8,z9,z10,z11,z12⟩:=H6.out.cells;have f0:=(H6.out.fr.at_ 1 rfl).froz;have f1:=f0;have f2:=f0;have f3:=f0;have f4:=f0;have f5:=f0;have f6:=f0;have f7:=f0;have f8:=f0;have f9:=f0;have f10:=f0;have f11:=f0;have f12:=f0;go_simp;refine hK.out _ _ (fun h=>absurd rfl h) ?_;clear hK K;refine zD ?_;go_wp2_with fail;go_meet
       exact⟨⟨⟨t,0,no⟩,kd,[],0,[],⟨c8.st.s,c8.st.q⟩,⟨0,0,0,0⟩⟩,none,0,⟨H6.out.upd (c':=⟨⟨t,0,no⟩,kd,[],0,[],⟨c8.st.s,c8.st.q⟩,⟨0,0,0,0⟩⟩) (A':=none) (cc':=0) 0 [.int .i64 t,.int .i64 0,.int .i64 no,.int .i64 kd,.string (ba []),.int .i64 0,D none 0 0,.int .i64 c8.st.s,.int .i64 c8.st.q,.int .i64 0,.int .i64 0,.int .i64 0,.int .i64 0] (H6.out.fr.setAll 1 rfl [.int .i64 t,.int .i64 0,.int .i64 no,.int .i64 kd,.string (ba []),.int .i64 0,D none 0 0,.int .i64 c8.st.s,.int .i64 c8.st.q,.int .i64 0,.int .i64 0,.int .i64 0,.int .i64 0] rfl) (fu.nil _ _) ⟨mv ⟨by omega,by omega⟩ ⟨by omega,by omega⟩ ⟨by omega,by omega⟩,HK.out,by simp,pM,HI8.out,aI⟩⟩⟩
     case rest =>
     obtain⟨c3,A3,cc3,H12⟩:=hcut;clear H9 B9;obtain⟨-,-,-,z3,-⟩:=H12.out.cells;go_upto_if 79 with (fail)
     by_cases hk2:c3.kind=2
     ·have hkb:(c3.kind==2)=true:=by rw[hk2];rfl
      replace hk2:=zZ hk2;obtain⟨b0,b1,b2,b3⟩:=(H12.out.fr.at_ 0 rfl).p4 rfl;go_wp2_with fail;refine (my p _ s _ H12.out.fr.tp (HS0.out.1.xt H12.out.fr.xt) HS0.out.2).mono ?_;rintro e w13 ⟨v13,rfl,⟨l,rfl,hl⟩,HT13,HX13⟩;obtain⟨lp,lc,lg,lv⟩:=l;have hlv:cJ.val ⟨lp,lc,lg,lv⟩=.agg #[.int .i64 lp,.int .i64 lc,.int .i64 lg,.int .i64 lv]:=rfl;rw[hlv];have HL:Bx (cJ.wf ⟨lp,lc,lg,lv⟩):=⟨hl⟩
      have H13:=bx (H12.out.step HX13 HT13);clear H12 HT13 HX13 hlv hl b0 b1 b2 b3 z3;obtain⟨-,-,-,-,-,-,-,-,-,z9,z10,z11,z12⟩:=H13.out.cells;have f0:=(H13.out.fr.at_ 1 rfl).froz;have f1:=f0;have f2:=f0;have f3:=f0;have f4:=f0;have f5:=f0;have f6:=f0;have f7:=f0;have f8:=f0;have f9:=f0;have f10:=f0;have f11:=f0;have f12:=f0;go_wp2_with fail;go_meet
      exact⟨⟨c3.st,c3.kind,c3.str,c3.cont,c3.ch,c3.tgt,⟨lp,lc,lg,lv⟩⟩,A3,cc3,⟨H13.out.upd (c':=⟨c3.st,c3.kind,c3.str,c3.cont,c3.ch,c3.tgt,⟨lp,lc,lg,lv⟩⟩) 9 [.int .i64 lp,.int .i64 lc,.int .i64 lg,.int .i64 lv] ((((H13.out.fr.set 1 rfl 9 _).set 1 rfl 10 _).set 1 rfl 11 _).set 1 rfl 12 _) H13.out.ch ⟨H13.out.ok.st,H13.out.ok.kind,H13.out.ok.str,H13.out.ok.cont,H13.out.ok.tgt,HL.out⟩⟩⟩
     ·have hkb:(c3.kind==2)=false:=beq_eq_false_iff_ne.2 hk2;replace hk2:=zZ hk2;go_wp2_with fail;go_meet
      exact⟨c3,A3,cc3,H12⟩
   case rest =>
   obtain⟨c4,A4,cc4,H14⟩:=hcut;clear H10 hb10;go_wp2_with fail;refine (fe p 14 _ H14.out.fr.tp (by omega) (by omega)).mono ?_;rintro e w15 ⟨v15,rfl,⟨b15,rfl⟩,HT15,HX15⟩;have H15:=bx (H14.out.step HX15 HT15);clear H14 HT15 HX15;go_upto_if 85 with (fail)
   go_cut [] (fun wx=>∃(c:aj) (A:Option Addr) (cc:Nat),Bx (fw p w wx (w.heap.size,#[.int .i64 s.num,D AP nP cP,D AB nB cB,D AX nX cX],29) g (D Ao no co) ys c A cc))
   case first =>
    cases b15 with
    |false =>
     go_wp2_with fail;go_meet
     exact⟨c4,A4,cc4,H15⟩
    |true =>
     go_wp2_with fail;refine (Eh p _ H15.out.fr.tp).mono ?_;rintro e w16 ⟨v16,rfl,⟨z,rfl,hz⟩,HT16,HX16⟩;obtain⟨zt,zs,zq⟩:=z;have hzv:Li ⟨zt,zs,zq⟩=.agg #[.int .i64 zt,.int .i64 zs,.int .i64 zq]:=rfl;rw[hzv];have HZ:Bx (JF ⟨zt,zs,zq⟩):=⟨hz⟩
     have H16:=bx (H15.out.step HX16 HT16);clear H15 HT16 HX16 hzv hz;obtain⟨z0,z1,z2,-⟩:=H16.out.cells;have f0:=(H16.out.fr.at_ 1 rfl).froz;have f1:=f0;have f2:=f0;go_wp2_with fail;go_meet
     exact⟨⟨⟨zt,zs,zq⟩,c4.kind,c4.str,c4.cont,c4.ch,c4.tgt,c4.lab⟩,A4,cc4,⟨H16.out.upd (c':=⟨⟨zt,zs,zq⟩,c4.kind,c4.str,c4.cont,c4.ch,c4.tgt,c4.lab⟩) 0 [.int .i64 zt,.int .i64 zs,.int .i64 zq] (((H16.out.fr.set 1 rfl 0 _).set 1 rfl 1 _).set 1 rfl 2 _) H16.out.ch ⟨HZ.out,H16.out.ok.kind,H16.out.ok.str,H16.out.ok.cont,H16.out.ok.tgt,H16.out.ok.lab⟩⟩⟩
   case rest =>
   obtain⟨c5,A5,cc5,H17⟩:=hcut;clear H15;obtain⟨z0,z1,z2,z3,z4,z5,z6,z7,z8,z9,z10,z11,z12⟩:=H17.out.cells;obtain rfl:no=ys.length:=by omega
   clear hy1 hy2;go_wp2_with (at_builtin;go_loud (refine cZ _ rfl (.tmp 89) (.tmp 91) 31 rfl w.heap.size 41 iC _ 13 128 underlying31 hiC hc0 hc1 hc2 rfl (by omega) (D Ao ys.length co) ys.length (ys.map fZ).flatten rfl (H17.out.row.own.ext ((zE _).alloc _)) _ #[.int .i64 c5.st.t,.int .i64 c5.st.s,.int .i64 c5.st.q,.int .i64 c5.kind,.string (ba c5.str),.int .i64 c5.cont,D A5 c5.ch.length cc5,.int .i64 c5.tgt.s,.int .i64 c5.tgt.q,.int .i64 c5.lab.p,.int .i64 c5.lab.c,.int .i64 c5.lab.g,.int .i64 c5.lab.v] _ rfl (heap_alloc_new _ _) rfl (by simp[Value.oneCell']) (by omega) (by omega) (by have:=H17.out.fr.xt.size;simp;omega) ?_;intro v18 w18 hown18 hg18;obtain⟨g18,cap18,rfl,_,_⟩:=di hown18 (by omega);have H18:Bx (ar w.heap.size w18 (D (some ⟨g18,0,none⟩) (ys.length+1) cap18) (ys++[(c5,D A5 c5.ch.length cc5)])/\Fr p w w18 [(w.heap.size,#[.int .i64 s.num,D AP nP cP,D AB nB cB,D AX nX cX],29)]):=⟨BH (y:=(c5,D A5 c5.ch.length cc5)) (H17.out.row.ext ((zE _).alloc _)) ((H17.out.fr.take 1).ext ((zE _).alloc _)) (show (29:Nat)≠41 by decide) hg18 hown18 (H17.out.ch.ext ((zE _).alloc _)) H17.out.ok⟩;clear hown18 hg18 H17 z0 z1 z2 z3 z4 z5 z6 z7 z8 z9 z10 z11 z12));refine (fe p 8 _ H18.out.2.tp (by omega) (by omega)).mono ?_;rintro e w19 ⟨v19,rfl,⟨b19,rfl⟩,HT19,HX19⟩;have H19:Bx (ar w.heap.size w19 (D (some ⟨g18,0,none⟩) (ys.length+1) cap18) (ys++[(c5,D A5 c5.ch.length cc5)])/\Fr p w w19 [(w.heap.size,#[.int .i64 s.num,D AP nP cP,D AB nB cB,D AX nX cX],29)]):=⟨H18.out.1.xt HX19 hlt,H18.out.2.step HX19 HT19⟩
   clear H18 HT19 HX19;obtain⟨zs,hzs⟩:=nm (ys++[(c5,Value.slice A5 c5.ch.length cc5)]);rw[<-hzs]at H19;have hzl:zs.length=ys.length+1:=by rw[hzs];simp
   rw[<-hzl]at H19;rw[<-hzl];have hz1:zs.length<=ys.length+1:=by omega
   have hz2:ys.length+1<=zs.length:=by omega
   clear hzs hzl;go_upto_if 94 with (fail)
   cases b19 with
   |false =>
    go_wp2_with fail;go_roundw
    case rel=>exact⟨k-1,zs.length,zs,_,_,rfl,by congr;omega,by omega,by omega,by omega,H19⟩
    case measure=>simp[intOf];omega
   |true =>
    go_wp2_with fail;refine (am p zs.length _ H19.out.2.tp (by omega)).mono ?_;rintro e w20 ⟨v20,rfl,⟨r,rfl,hr1,hr2⟩,HT20,HX20⟩;obtain⟨r,rfl⟩:=zG hr1;have hrn:r<zs.length:=by omega
    have H20:Bx (ar w.heap.size w20 (D (some ⟨g18,0,none⟩) zs.length cap18) zs/\Fr p w w20 [(w.heap.size,#[.int .i64 s.num,D AP nP cP,D AB nB cB,D AX nX cX],29)]):=⟨H19.out.1.xt HX20 hlt,H19.out.2.step HX20 HT20⟩
    clear H19 HT20 HX20;obtain⟨c8,A8,cc8,-,hch8,hok8,e0,e1,e2,e3,e4,e5,e6,e7,e8,e9,e10,e11,e12⟩:=H20.out.1.cells hrn;have HC8:Bx (fu w20 w.heap.size (D A8 c8.ch.length cc8) c8.ch/\iu c8):=⟨⟨hch8,hok8⟩⟩
    clear hch8 hok8;go_wp2_with (at_builtin;go_loud (refine cZ _ rfl (.tmp 95) (.tmp 103) 31 rfl w.heap.size 41 iC _ 13 128 underlying31 hiC hc0 hc1 hc2 rfl (by omega) (D (some ⟨g18,0,none⟩) zs.length cap18) zs.length (zs.map fZ).flatten rfl (H20.out.1.own.ext ((zE _).alloc _)) _ #[.int .i64 c8.st.t,.int .i64 c8.st.s,.int .i64 c8.st.q,.int .i64 c8.kind,.string (ba c8.str),.int .i64 c8.cont,D A8 c8.ch.length cc8,.int .i64 c8.tgt.s,.int .i64 c8.tgt.q,.int .i64 c8.lab.p,.int .i64 c8.lab.c,.int .i64 c8.lab.g,.int .i64 c8.lab.v] _ rfl (heap_alloc_new _ _) rfl (by simp[Value.oneCell']) (by omega) (by omega) (by have:=H20.out.2.xt.size;simp;omega) ?_;intro v21 w21 hown21 hg21;obtain⟨g21,cap21,rfl,_,_⟩:=di hown21 (by omega);have H21:Bx (ar w.heap.size w21 (D (some ⟨g21,0,none⟩) (zs.length+1) cap21) (zs++[(c8,D A8 c8.ch.length cc8)])/\Fr p w w21 [(w.heap.size,#[.int .i64 s.num,D AP nP cP,D AB nB cB,D AX nX cX],29)]):=⟨BH (y:=(c8,D A8 c8.ch.length cc8)) (H20.out.1.ext ((zE _).alloc _)) (H20.out.2.ext ((zE _).alloc _)) (show (29:Nat)≠41 by decide) hg21 hown21 (HC8.out.1.ext ((zE _).alloc _)) HC8.out.2⟩;clear hown21 hg21 H20 e0 e1 e2 e3 e4 e5 e6 e7 e8 e9 e10 e11 e12 HC8));go_roundw
    case rel=>exact⟨k-1,zs.length+1,_,_,_,rfl,by congr;omega,by simp,by simp,by omega,H21⟩
    case measure=>simp[intOf];omega
  ·go_wp2_with fail;go_ret
   exact⟨_,rfl,⟨ys,HR.out.1,by omega⟩,HR.out.2.tp,HR.out.2.xt⟩
end Go.Proofs.YtpaidaphacoblaaGreatDoor

