import Derived.Test.YtkaajgoeahahpaaGreatDoorH17
import Derived.Laws.Shifts
set_option linter.all false
set_option maxRecDepth 100000
set_option maxHeartbeats 0
namespace Go.Proofs.YtkaajgoeahahpaaGreatDoor
open Go.Value renaming int→B,slice→D
open Go.IntKind renaming i64→C
open Go.RowKit _root_.Go.Proofs.Tryz
variable {b p:Nat}
def GB(l:List aj)(base:Nat)(v:Value)(w':World):Prop:=∃(out cl:List Int),Df l cl/\eQ (l.map aj.st) cl l.length out/\w'.ownsRow base 3 1 v out.length (out.map (Value.int .i64))
theorem uf(v:Value)(l:List aj)(w:World)(hv:au p w v l)(hl:l.length<=300)(hw0:0<w.heap.size) :
  Calls prog 57 #[v,.func (.func 58) #[] #[],.func (.func 26) #[] #[]] w fun e w'=>(∃vo,e=.returned (.tuple #[vo,B C 0])/\GB l w.heap.size vo w')/\ab w w':=by
 have HV:Bx (au p w v l):=⟨hv⟩
 have HL:Hid (l.length<=300):=hl;clear hv hl;go_enter func57,ntmps57
 go_upto_region 2 with (go_at_call 97;refine (CY _ l _ HV.out HL.out hw0).mono ?_;rintro e w1 ⟨⟨vo,rfl,b1,b2,n,cs,rfl,hn,hS,hC,hW⟩,hx1⟩;have HB:Bx (oI 0 w1 (D (some ⟨b1,0,none⟩) n n) (l.map aj.st)/\ak 0 w1 (D (some ⟨b2,0,none⟩) n n) cs/\Df l cs/\ab w w1):=⟨⟨hS,hC,hW,hx1⟩⟩;clear hS hC hW hx1 hn)
 go_wp2_with (go_at_call 98;refine (xi _ _ (l.map aj.st) cs _ HB.out.1 HB.out.2.1 (by rw[HB.out.2.2.1.1];simp) (by rw[zJ];exact HL.out)).mono ?_;rintro e w2 ⟨⟨vi,rfl,out,h1,h2⟩,hx2⟩;have HE:Bx (GB l w.heap.size vi w2/\ab w w2):=⟨⟨⟨out,cs,HB.out.2.2.1,by rw[zJ]at h1;exact h1,cd h2 HB.out.2.2.2.size⟩,HB.out.2.2.2.trans hx2⟩⟩;clear h1 h2 hx2);exact bodyPost_ret (v:=.tuple #[vi,B C 0]) (by simp[results,results57,go_sem]) rfl ⟨⟨_,rfl,HE.out.1⟩,HE.out.2⟩
theorem AO{l:List aj}:∀{out:List Int},(∀x∈out,∃(i:Nat) (a:aj),x=(i:Int)/\l[i]?=some a)->(eM l out).length=out.length/\∀(j i:Nat),out[j]?=some (i:Int)->(eM l out)[j]?=l[i]?
 |[],_=>⟨rfl,fun j i h=>by simp at h⟩
 |x::out,h=>by
  obtain⟨i,a,hx,ha⟩:=h x (by simp);obtain⟨h1,h2⟩:=AO (out:=out) fun y hy=>h y (by simp[hy]);have e:eM l (x::out)=a::eM l out:=by unfold eM;rw[List.filterMap_cons,hx,yC,ha]
  rw[e];refine⟨by simp[h1],fun j k hk=>?_⟩;match j,hk with
  |0,hk =>
   simp only[List.getElem?_cons_zero,Option.some.injEq]at hk⊢;have:i=k:=by omega
   subst this;rw[ha]
  |j+1,hk=>simpa using h2 j k (by simpa using hk)
theorem E4(n:Nat)(hn:n<=1000)(w:World):(Instr.makeSlice 35 (B C (n:Int)) (B C (n:Int))).run prog w=.ok (D (some ⟨w.heap.size,0,none⟩) n n) (w.alloc (.cells (madeCells #[B C 0,B C 0,B C 0,B C 0,.string ⟨#[]⟩,B C 0,D none 0 0,B C 0,B C 0,B C 0,B C 0,B C 0,B C 0] (n*13)) 47)):=by obtain⟨i,hi,h0,h1,h2⟩:=info_parts Tryz.infoCap;have h:=run_make (P:=prog) w 35 47 i _ underlying35 hi h0 .i64 .i64 n n (by omega) (Int.le_refl _) (by rw[h2];omega) (by omega);rw[yC,h1]at h;exact h
def qV(b p:Nat):World->List Value->aj->Prop:=fun w cs c=>∃u,cs=c.cells u/\ak b w u c.ch/\ak p w u c.ch/\c.wf
theorem ak.both{w w':World}{v:Value}{l:List Int}(h:ak b w v l)(k:ak p w v l)(x:XT b w w'):ak p w' v l:=by obtain⟨A,c,hv,h1,h2,h3,h5,h4⟩:=k;obtain⟨A',c',hv',-,-,-,-,h4'⟩:=h;refine⟨A,c,hv,h1,h2,h3,h5,fun k y hy=>?_⟩;obtain⟨g,off,ha,hb,hc⟩:=h4 k y hy;obtain⟨g',off',ha',hb',-⟩:=h4' k y hy;rw[hv]at hv';injection hv' with hv';rw[<-hv',ha]at ha';injection ha' with ha';injection ha' with e;subst e;exact⟨g,off,ha,hb,x.cell hc hb'⟩
theorem qV.stab(b p:Nat):lV b (qV b p):=by rintro w w' cs c ⟨u,h1,h2,h3,h4⟩ e;exact⟨u,h1,h2.xt e,h2.both h3 e,h4⟩
structure qt (p:Nat) (ys:List aj) (w wr:World) (b n k:Nat) (xs:List aj):Prop where
 x:ab w wr
 b1:w.heap.size<=b
 ow:ah b 47 13 (qV b p wr) wr (D (some ⟨b,0,none⟩) n n) xs
 at_:∀j,j<k->xs[j]?=ys[j]?
section
variable {ys xs:List aj} {w wr w':World} {p b n k:Nat}
theorem ah.imp{α:Type}{base e size:Nat}{v:Value}{R R':List Value->α->Prop}{w:World}{xs:List α}(h:ah base e size R w v xs)(hR:∀cs x,R cs x->R' cs x):ah base e size R' w v xs:=by obtain⟨css,h1,h2,h3,h4⟩:=h;exact⟨css,h1,h2,h3,fun k cs x hc hx=>hR _ _ (h4 k cs x hc hx)⟩
theorem qt.ext(h:qt p ys w wr b n k xs)(x:ab wr w'):qt p ys w w' b n k xs :=
 ⟨h.x.trans x,h.b1,(h.ow.ext x).imp fun cs c hc=>qV.stab b p _ _ cs c hc x.xt,h.at_⟩
theorem qt.put(h:qt p ys w wr b n k xs){c:aj}(hk:k<n)(hc:ys[k]?=some c){u:Value}(hu:ak b wr u c.ch)(hv:ak p wr u c.ch)(hw:c.wf):qt p ys w (be wr b (k*13) (c.cells u)) b n (k+1) (xs.set k c):=by
 have hg:=ez b (c.cells u) wr (k*13);have hl:=h.ow.len;refine⟨h.x.grown hg (fun kk e=>by injection e with e;have:=h.b1;omega),h.b1,(h.ow.putAll hk (c.cells u) rfl ⟨u,rfl,hu,hv,hw⟩).imp fun cs c hc=>qV.stab b p _ _ cs c hc hg,fun j hj=>?_⟩;rw[yD];by_cases e:k=j
 ·subst e;rw[if_pos rfl,if_pos (by omega),hc]
 ·rw[if_neg e];exact h.at_ j (by omega)
theorem qt.choices(h:qt p ys w wr b n k xs){j:Nat}{c:aj}(hj:j<n)(hc:xs[j]?=some c){u:Value}(hu:ak b wr u c.ch)(hv:ak p wr u c.ch):qt p ys w (wr.setCell ⟨b,j*13+6,none⟩ u) b n k xs:=by
 have hg:wr.grownBy (wr.setCell ⟨b,j*13+6,none⟩ u) (some b):=⟨rfl,rfl,rfl,by simp[World.setCell],fun kk _ hne=>yP _ _ _ _ (fun e=>hne (by rw[e]))⟩
 have h1:=h.ow.putAt (x':=c) (u:=u) hj (show 6<13 by decide) fun cs x hx hR=>by
  rw[hc]at hx;injection hx with hx;subst hx
  obtain⟨u0,rfl,-,-,hw⟩:=hR;exact⟨u,rfl,hu,hv,hw⟩
 have e:xs.set j c=xs:=by obtain⟨h1,h2⟩:=zY.1 hc;rw[<-h2];exact uM h1
 rw[e]at h1;exact⟨h.x.grown hg (fun kk e=>by injection e with e;have:=h.b1;omega),h.b1,h1.imp fun cs c hc=>qV.stab b p _ _ cs c hc hg,h.at_⟩
end
def It:aj:=⟨⟨0,0,0⟩,0,[],0,[],⟨0,0⟩,⟨0,0,0,0⟩⟩
theorem Jy:It.wf:=by
 have h:aU 0:=⟨by decide,by decide⟩
 exact⟨⟨h,h,h⟩,h,by decide,h,⟨h,h⟩,⟨h,h,h,h⟩,by decide⟩
def DL(l:List aj)(p:Nat)(v:Value)(w':World):Prop:=∃b n,p<b/\v=D (some ⟨b,0,none⟩) n n/\n=(ay l).length/\au p w' v (ay l)
theorem rj(v:Value)(l:List aj)(w:World)(hp:p<w.heap.size)(hv:au p w v l)(hl:l.length<=300) :
  Calls prog 22 #[v] w fun e w'=>(∃vo,e=.returned (.tuple #[vo,B C 0])/\DL l p vo w')/\ab w w':=by
 obtain⟨A,n0,c,rfl,hnc,hcc,hnn,HL⟩:=hv.open_;have HV:Bx (au p w (D A n0 c) l):=⟨hv⟩
 have hn0:n0<=300:=by have:=HL.out;omega
 have hwp:0<w.heap.size:=by omega
 clear hv hl;go_enter func22,ntmps22
 go_upto_region 4 with (go_at_call 57;refine (uf _ l _ HV.out (by rw[HL.out];exact hn0) hwp).mono ?_;rintro e w1 ⟨⟨vi,rfl,out,cl,hW,hS,hO⟩,hx1⟩;obtain⟨Ai,ci,rfl⟩:=ig hO)
 obtain⟨n,hn⟩:=nm out.length;rw[<-hn]at hO⊢;have hn1:n<=300:=by have:=D9 hS;have:=HL.out;omega
 have hel:∀x∈out,∃(i:Nat) (a:aj),x=(i:Int)/\l[i]?=some a:=fun x hx=>by obtain⟨i,h1,h2,-⟩:=hS.mem.1 hx;exact⟨i,_,h1,zV h2⟩
 have hcg:=AO hel;rw[Ew hW hS,<-hn]at hcg;have HCG:=zZ hcg;have HEL:=zZ hel;have HI:Bx (ak 0 w1 (D Ai n ci) out):=⟨ak.of_own hO hwp (fun x hx=>by obtain⟨i,a,h1,h2⟩:=hel x hx;have:=(zY.1 h2).1;have:=HL.out;constructor<;>omega) (by omega)⟩
 have HX1:=zZ hx1;have hpb:=zB hp hx1.size;clear hW hS hO hn hel hcg hx1;have hm:=fun W=>E4 n (by omega) W;go_upto_region 5 with (fail)
 clear hm;obtain⟨b,hb⟩:=nm w1.heap.size;obtain⟨w2,hw2⟩:=nm (w1.alloc (.cells (madeCells #[B C 0,B C 0,B C 0,B C 0,.string ⟨#[]⟩,B C 0,D none 0 0,B C 0,B C 0,B C 0,B C 0,B C 0,B C 0] (n*13)) 47));have HS:Bx (qt p (ay l) w1 w2 b n 0 (List.replicate n It)):=⟨by
  have x2:ab w1 w2:=by rw[hw2];exact (zE _).alloc _
  have o1:=ah.made (e:=47) (R:=qV b p w2) w1 (It.cells (D none 0 0)) It n (by decide) (by omega) ⟨_,rfl,ak.nil _ _,ak.nil _ _,Jy⟩;refine⟨x2,by omega,?_,fun j hj=>by omega⟩;rw[hb,hw2];rw[hb,hw2]at o1;exact o1⟩
 rw[<-hb,<-hw2];have hpb2:p<b:=by omega
 clear hw2 hb;go_wp2_with fail;go_loopw [22] (fun s22 wr=>∃(k:Nat) (xs:List aj),s22=B C k/\k<=n/\Bx (qt p (ay l) w1 wr b n k xs)) (fun k _=>n-(intOf k).toNat)
 case atStart=>exact⟨0,_,rfl,by omega,HS⟩
 case round =>
  obtain⟨k,xs,rfl,hk,HR⟩:=hrel;clear HS;by_cases hkn:k<n
  ·obtain⟨bi,oi,x,rfl,gk,HXk,-,-⟩:=(HI.out.ext HR.out.x).at_ hkn;obtain⟨i,a,hxi,hai⟩:=HEL.out x (zW HXk.out);subst hxi;have hin:i<n0:=by have:=(zY.1 hai).1;have:=HL.out;omega
   have HC:=zZ ((HCG.out.2 k i HXk.out).trans hai);obtain⟨bA,oA,_,_,rfl,-⟩:=HV.out.at_ hin;obtain⟨t,s,q,kd,ct,ts,tq,lp,lc,lg,lv,str,ch,Au,mu,cu,HX,hcs,hI,hwf⟩:=au.read HV.out (XT.refl p w) hin;obtain rfl:a=⟨⟨t,s,q⟩,kd,str,ct,ch,⟨ts,tq⟩,⟨lp,lc,lg,lv⟩⟩:=by have:=HX.out;rw[hai]at this;injection this
   have hcs2:=hcs.ext (HX1.out.trans HR.out.x);obtain⟨c0,c1,c2,c3,c4,c5,c6,c7,c8,c9,c10,c11,c12⟩:=hcs2;have HU:Bx (ak b wr (D Au mu cu) ch):=⟨(hI.re (by have:=HX1.out.size;have:=HR.out.b1;omega)).ext (HX1.out.trans HR.out.x)⟩
   have HU2:Bx (ak p wr (D Au mu cu) ch):=⟨hI.ext (HX1.out.trans HR.out.x)⟩
   have HW:=zZ hwf;have H6:=zZ hcs.c6;obtain⟨cs0,x0,-,⟨u0,rfl,-,-,-⟩,-,hcl,hfz⟩:=HR.out.ow.cellsAt hkn;have z0:=hcl 0 _ rfl;have z1:=hcl 1 _ rfl;have z2:=hcl 2 _ rfl;have z3:=hcl 3 _ rfl;have z4:=hcl 4 _ rfl;have z5:=hcl 5 _ rfl;have z6:=hcl 6 _ rfl;have z7:=hcl 7 _ rfl;have z8:=hcl 8 _ rfl;have z9:=hcl 9 _ rfl;have z10:=hcl 10 _ rfl;have z11:=hcl 11 _ rfl;have z12:=hcl 12 _ rfl
   rw[yQ]at z0;have f0:=hfz (k*13);have f1:=hfz (k*13+1);have f2:=hfz (k*13+2);have f3:=hfz (k*13+3);have f4:=hfz (k*13+4);have f5:=hfz (k*13+5);have f6:=hfz (k*13+6);have f7:=hfz (k*13+7);have f8:=hfz (k*13+8);have f9:=hfz (k*13+9);have f10:=hfz (k*13+10);have f11:=hfz (k*13+11);have f12:=hfz (k*13+12)
   have hch:ch.length<=1000:=hwf.2.2.2.2.2.2;clear hcl hfz hI hcs HXk HX hai;go_upto_region 9 with (fail)
   have hS3:=HR.out.put hkn HC.out HU.out HU2.out HW.out;obtain⟨w3,hw3⟩:=nm (be wr b (k*13) (aj.cells ⟨⟨t,s,q⟩,kd,str,ct,ch,⟨ts,tq⟩,⟨lp,lc,lg,lv⟩⟩ (D Au mu cu)));rw[<-hw3]at hS3;have hU3:ak b w3 (D Au mu cu) ch:=by rw[hw3];exact HU.out.xt (ez b _ _ _)
   simp only[aj.cells,be,wC,Nat.reduceAdd]at hw3;rw[show sv str=Value.string (ba str) from rfl]at hw3;rw[<-hw3];have HS3:=zZ hS3;have HU3:Bx (ak b w3 (D Au mu cu) ch):=⟨hU3⟩
   have e6:=(HX1.out.trans hS3.x).cell H6.out;have hb3:b<w3.heap.size:=by obtain⟨_,hG,_,h,_⟩:=hS3.ow.lies (by omega);injection hG with hG;injection hG with hG;omega
   clear hw3 hS3 hU3 HU HU2 HR c0 c1 c2 c3 c4 c5 c6 c7 c8 c9 c10 c11 c12 z0 z1 z2 z3 z4 z5 z6 z7 z8 z9 z10 z11 z12 f0 f1 f2 f3 f4 f5 f6 f7 f8 f9 f10 f11 f12;go_upto_region 10 with (go_at_call 59;refine (jF _ ch _ HU3.out hch).mono ?_;rintro e w4 ⟨v4,rfl,hO4,hx4⟩;have hS4:=HS3.out.ext hx4;obtain⟨cs0,x0,-,⟨u0,rfl,-,-,-⟩,hx0,hcl,hfz⟩:=hS4.ow.cellsAt hkn;have z6:=hcl 6 _ rfl;have f6:=hfz (k*13+6);have hI4:=ak.of_own (p:=b) hO4 hb3 (fun _ h=>HU3.out.mem h) (by omega);have hJ4:=ak.of_own (p:=p) hO4 (by omega) (fun _ h=>HU3.out.mem h) (by omega);obtain⟨A4,n4,c4,rfl,-⟩:=hI4.open_;have HS5:=zZ (hS4.choices (c:=⟨⟨t,s,q⟩,kd,str,ct,ch,⟨ts,tq⟩,⟨lp,lc,lg,lv⟩⟩) hkn (by rw[hS4.at_ k (by omega)];exact HC.out) hI4 hJ4);clear hcl hfz hS4 hx4 hI4 hJ4 hO4 hx0)
   go_wp2_with fail;go_roundw
   case rel=>exact⟨k+1,_,by go_num,by omega,⟨HS5.out⟩⟩
   case measure=>simp[intOf];omega
  ·obtain rfl:n=k:=by omega
   have HE:Bx (DL l p (D (some ⟨b,0,none⟩) n n) wr/\ab w wr):=⟨by
    have h:=HR.out;have hxl:=h.ow.len;have hxe:xs=ay l:=by
     apply xW;intro j;rcases zU j n with hj|hj
     ·exact h.at_ j hj
     ·rw[zC (by omega),zC (by have:=HCG.out.1;omega)]
    refine⟨⟨b,n,hpb2,rfl,HCG.out.1.symm,?_⟩,HX1.out.trans h.x⟩;rw[<-hxe];refine h.ow.isS (by decide) hpb2 fun cs x hx=>?_;obtain⟨u,h1,-,h2,h3⟩:=hx;exact⟨u,h1,h2,h3⟩⟩
   clear HR;go_wp2_with fail;exact bodyPost_ret (v:=.tuple #[D (some ⟨b,0,none⟩) n n,B C 0]) (by simp[results,results22,go_sem]) rfl ⟨⟨_,rfl,HE.out.1⟩,HE.out.2⟩
noncomputable def m9(s:dl):Int:=if s.bk.length≠s.pap.length then 1 else if (List.range s.pap.length).all (jK s)=false then 1 else 0
theorem GI{s:dl}(h:s.bk.length≠s.pap.length):m9 s=1:=by unfold m9;rw[if_pos h]
theorem nw{s:dl}{k:Nat}(h:s.bk.length=s.pap.length)(hk:k<s.pap.length)(hg:jK s k=false):m9 s=1:=by unfold m9;rw[if_neg (by simp[h]),if_pos (wT.2 ⟨k,yX.2 hk,by simp[hg]⟩)]
theorem Iw{s:dl}(h:s.bk.length=s.pap.length)(hg:∀j,j<s.pap.length->jK s j=true):m9 s=0:=by unfold m9;rw[if_neg (by simp[h]),hD hg];simp
theorem C0{s:dl}(h1:0<=s.num/\s.num<=31)(h2:1<=s.pap.length/\s.pap.length<=4/\s.xp.length<=60):(m9 s≠0->aC s=m9 s) /\
  (m9 s=0->aC s=if s.xp.all (ud s.pap.length)=false then 2 else if (List.range (s.xp.length-1)).all (lW s.xp)=false then 5 else 0):=by
 unfold m9;by_cases h3:s.bk.length=s.pap.length
 ·rw[if_neg (by simp[h3])];cases h4:(List.range s.pap.length).all (jK s) with
  |false=>rw[if_pos rfl];exact⟨fun _=>jn h1 h2 h3 h4,fun h=>by omega⟩
  |true=>rw[if_neg (by simp)];exact⟨fun h=>by omega,fun _=>mF h1 h2 h3 h4⟩
 ·rw[if_pos h3];exact⟨fun _=>AV h1 h2 h3,fun h=>by omega⟩
theorem Cj(s:dl):m9 s=0\/m9 s=1:=by
 unfold m9;split
 ·exact .inr rfl
 ·split
  ·exact .inr rfl
  ·exact .inl rfl
theorem pP(s:dl)(AP AB AX:Option Addr)(nP cP nB cB nX cX:Nat)(w:World)(hP:jg p w (D AP nP cP) s.pap)(hB:l9 p w (D AB nB cB) s.bk) :
  Calls prog 50 #[.agg #[B C s.num,D AP nP cP,D AB nB cB,D AX nX cX]] w fun e w'=>e=.returned (B C (m9 s))/\ab w w':=by
 have HLP:=zZ (show s.pap.length=nP from by obtain⟨_,_,e,_⟩:=hP;injection e with _ e _;exact e.symm);have HLB:=zZ (show s.bk.length=nB from by obtain⟨_,_,e,_⟩:=hB;injection e with _ e _;exact e.symm);have hb1:nP<=9223372036854775807:=by obtain⟨_,_,e,h1,h2,_⟩:=hP;injection e with _ e _;omega
 have hb2:nB<=9223372036854775807:=by obtain⟨_,_,e,h1,h2,_⟩:=hB;injection e with _ e _;omega
 have HR0:Bx (jg p w (D AP nP cP) s.pap/\l9 p w (D AB nB cB) s.bk):=⟨⟨hP,hB⟩⟩
 clear hP hB;obtain⟨w1,hw1⟩:=nm ((w.alloc (.cells #[B C s.num,D AP nP cP,D AB nB cB,D AX nX cX] 27)):World);have HF:Bx (aA w w1 [(w.heap.size,#[B C s.num,D AP nP cP,D AB nB cB,D AX nX cX],27)]):=⟨by rw[hw1];exact (aA.start w).push _ _ rfl⟩
 go_enter func50,ntmps50
 go_upto_region 1 with (fail)
 rw[<-hw1];clear hw1;obtain⟨z0,z1,z2,z3⟩:=(HF.out.at_ 0 rfl).p4 rfl;by_cases c3:nB=nP;case neg =>
  have c3b:((nB:Int)!=(nP:Int))=true:=by simp;omega
  have HE:=zZ (GI (s:=s) (by rw[HLP.out,HLB.out];exact c3));go_wp2_with fail;all_goals first
   |(exfalso;omega)
   |(go_ret;exact⟨ag HE.out.symm,HF.out.xt⟩)
 subst c3;have HLL:Bx (s.bk.length=s.pap.length):=⟨by rw[HLP.out,HLB.out]⟩
 go_wp2_with fail;clear z0 z1 z2 z3;go_loopw [15] (fun s15 wr=>∃k:Nat,s15=B C k/\k<=nB/\Bx (aA w wr [(w.heap.size,#[B C s.num,D AP nB cP,D AB nB cB,D AX nX cX],27)]/\∀j,j<k->jK s j=true)) (fun k _=>nB-(intOf k).toNat)
 case atStart=>exact⟨0,rfl,by omega,⟨⟨HF.out,fun j hj=>by omega⟩⟩⟩
 case round =>
  obtain⟨k,rfl,hk,HR⟩:=hrel;clear HF;by_cases hkn:k<nB
  ·obtain⟨bP,oP,_,_,rfl,-⟩:=HR0.out.1.at_ hkn;obtain⟨bB,oB,_,_,rfl,-⟩:=HR0.out.2.at_ hkn;have hqk:s.pap[k]?=some (s.pap[k]'(by have:=HLP.out;omega)):=zV _;have hbk:s.bk[k]?=some (s.bk[k]'(by have:=HLB.out;omega)):=zV _;generalize s.pap[k]'(by have:=HLP.out;omega)=q at hqk;generalize s.bk[k]'(by have:=HLB.out;omega)=bk at hbk;obtain⟨Aq,nq,cq,q0,q1,q2,hIQ,hq1,hq2⟩:=kn HR0.out.1 hqk HR.out.1.xt.xt;obtain⟨Ab,nb,cb,b0,hIB,-⟩:=lJ HR0.out.2 hbk HR.out.1.xt.xt;obtain⟨qc,qv,qs⟩:=q;simp only at q0 q1 q2 hIQ hq1 hq2;have HG:=zZ (D3 hqk hbk);have HA:Bx (∀j,j<k->jK s j=true):=⟨HR.out.2⟩
   have HIQ:Bx (oa p wr (D Aq nq cq) qs/\oc p wr (D Ab nb cb) bk):=⟨⟨hIQ,hIB⟩⟩
   have HFr:Bx (aA w wr [(w.heap.size,#[B C s.num,D (some ⟨bP,oP,none⟩) nB cP,D (some ⟨bB,oB,none⟩) nB cB,D AX nX cX],27)]):=⟨HR.out.1⟩
   have hkl:k<s.pap.length:=by have:=HLP.out;omega
   have HKL:=zZ hkl;clear hIQ hIB hqk hbk HR hkl;go_upto_region 6 with (fail)
   have HF2:Bx (aA w (wr.alloc (.cells #[B C qc,B C qv,D Aq nq cq] 84)) [(w.heap.size,#[B C s.num,D (some ⟨bP,oP,none⟩) nB cP,D (some ⟨bB,oB,none⟩) nB cB,D AX nX cX],27),(wr.heap.size,#[B C qc,B C qv,D Aq nq cq],84)]):=⟨HFr.out.push _ _ rfl⟩
   have HI:Bx (oa p (wr.alloc (.cells #[B C qc,B C qv,D Aq nq cq] 84)) (D Aq nq cq) qs/\oc p (wr.alloc (.cells #[B C qc,B C qv,D Aq nq cq] 84)) (D Ab nb cb) bk):=⟨⟨HIQ.out.1.ext (bC.stab p) ((zE _).alloc _),HIQ.out.2.ext (RI.stab p) ((zE _).alloc _)⟩⟩
   replace b0:=((zE wr).alloc (.cells #[B C qc,B C qv,D Aq nq cq] 84)).cell b0;obtain⟨w2,hw2⟩:=nm ((wr.alloc (.cells #[B C qc,B C qv,D Aq nq cq] 84)):World);rw[<-hw2]at HF2 HI b0;rw[<-hw2];clear hw2 q0 q1 q2 HFr HIQ;obtain⟨gp,hgp⟩:=nm wr.heap.size;rw[<-hgp]at HF2;rw[<-hgp];clear hgp;have s0:=(HF2.out.at_ 0 rfl).c 0 rfl;have s2:=(HF2.out.at_ 0 rfl).c 2 rfl;obtain⟨p0,p1,p2⟩:=(HF2.out.at_ 1 rfl).p3 rfl;refine zQ 99 fun wd kS=>?_;refine zS 1 [(0,20)] kS ?_;refine zT ?_ (y:=by intro wk hk;obtain⟨_,_,_,_,_,_⟩:=zkc6 hk s0 s2 p0 p1 p2 b0;go_simp;try with_reducible rfl);refine zN (zO 1 (fun K hK=>?_));go_simp;refine (kP qc qv _ qs _ (p:=p) (HI.out.1.ext (bC.stab p) kS)).mono ?_;rintro e w3 ⟨rfl,hx3⟩;have kS2:ab w2 w3:=kS.trans hx3;clear hx3;cases h1:fD qc qv qs with
   |false =>
    have HE:=zZ (nw HLL.out HKL.out (by rw[HG.out,h1];rfl));replace h1:=zZ h1;refine hK.out _ _ (fun _=>kS2) ?_;clear hK K;try simp only[kA]
    refine zS 24 [(2,22),(3,23),(4,24),(5,25),(6,26),(7,27),(8,28),(9,29),(10,30),(11,31),(12,32),(13,33),(14,34),(15,35),(16,36),(17,37),(18,38),(19,39),(20,40),(21,41),(22,42),(23,43),(24,44),(25,45)] kS2 ?_;iterate 2 refine zT ?_ (y:=by intro wk hk;obtain⟨_,_,_,_,_,_⟩:=zkc6 hk s0 s2 p0 p1 p2 b0;go_simp;try with_reducible rfl)
    iterate 5 (apply zK;exact⟨rfl,rfl⟩;simp only[kA];exact rfl)
    iterate 2 refine zT ?_ (y:=by intro wk hk;obtain⟨_,_,_,_,_,_⟩:=zkc6 hk s0 s2 p0 p1 p2 b0;go_simp;try with_reducible rfl)
    iterate 4 (apply zK;exact⟨rfl,rfl⟩;simp only[kA];exact rfl)
    iterate 2 refine zT ?_ (y:=by intro wk hk;obtain⟨_,_,_,_,_,_⟩:=zkc6 hk s0 s2 p0 p1 p2 b0;go_simp;try with_reducible rfl)
    iterate 8 (apply zK;exact⟨rfl,rfl⟩;simp only[kA];exact rfl)
    refine zT ?_ (y:=by intro wk hk;obtain⟨_,_,_,_,_,_⟩:=zkc6 hk s0 s2 p0 p1 p2 b0;go_simp;try with_reducible rfl);refine zN (zD ?_);go_wp2_with fail;go_ret
    exact⟨ag HE.out.symm,HF2.out.xt.trans kS2⟩
   |true =>
    by_cases h2:qc=s.num;case neg =>
     have h2b:(qc != s.num)=true:=by simp[h2]
     have HE:=zZ (nw HLL.out HKL.out (by rw[HG.out];simp[h2]));replace h1:=zZ h1;replace h2:=zZ h2;refine hK.out _ _ (fun _=>kS2) ?_;clear hK K;try simp only[kA]
     refine zS 24 [(2,22),(3,23),(4,24),(5,25),(6,26),(7,27),(8,28),(9,29),(10,30),(11,31),(12,32),(13,33),(14,34),(15,35),(16,36),(17,37),(18,38),(19,39),(20,40),(21,41),(22,42),(23,43),(24,44),(25,45)] kS2 ?_;iterate 9 refine zT ?_ (y:=by intro wk hk;obtain⟨_,_,_,_,_,_⟩:=zkc6 hk s0 s2 p0 p1 p2 b0;go_simp;try with_reducible rfl)
     iterate 4 (apply zK;exact⟨rfl,rfl⟩;simp only[kA];exact rfl)
     iterate 2 refine zT ?_ (y:=by intro wk hk;obtain⟨_,_,_,_,_,_⟩:=zkc6 hk s0 s2 p0 p1 p2 b0;go_simp;try with_reducible rfl)
     iterate 8 (apply zK;exact⟨rfl,rfl⟩;simp only[kA];exact rfl)
     refine zT ?_ (y:=by intro wk hk;obtain⟨_,_,_,_,_,_⟩:=zkc6 hk s0 s2 p0 p1 p2 b0;go_simp;try with_reducible rfl);refine zN (zD ?_);go_wp2_with fail;go_ret
     exact⟨ag HE.out.symm,HF2.out.xt.trans kS2⟩
    have h2b:(qc != s.num)=false:=by simp[h2]
    by_cases h3:qv=(k:Int)
    case neg =>
     have h3b:(qv != (k:Int))=true:=by simp[h3]
     have HE:=zZ (nw HLL.out HKL.out (by rw[HG.out];simp[h3]));replace h1:=zZ h1;replace h2:=zZ h2;replace h3:=zZ h3;refine hK.out _ _ (fun _=>kS2) ?_;clear hK K;try simp only[kA]
     refine zS 24 [(2,22),(3,23),(4,24),(5,25),(6,26),(7,27),(8,28),(9,29),(10,30),(11,31),(12,32),(13,33),(14,34),(15,35),(16,36),(17,37),(18,38),(19,39),(20,40),(21,41),(22,42),(23,43),(24,44),(25,45)] kS2 ?_;iterate 15 refine zT ?_ (y:=by intro wk hk;obtain⟨_,_,_,_,_,_⟩:=zkc6 hk s0 s2 p0 p1 p2 b0;go_simp;try with_reducible rfl)
     iterate 8 (apply zK;exact⟨rfl,rfl⟩;simp only[kA];exact rfl)
     refine zT ?_ (y:=by intro wk hk;obtain⟨_,_,_,_,_,_⟩:=zkc6 hk s0 s2 p0 p1 p2 b0;go_simp;try with_reducible rfl);refine zN (zD ?_);go_wp2_with fail;go_ret
     exact⟨ag HE.out.symm,HF2.out.xt.trans kS2⟩
    have h3b:(qv != (k:Int))=false:=by simp[h3]
    replace h1:=zZ h1;replace h2:=zZ h2;replace h3:=zZ h3;refine hK.out _ _ (fun _=>kS2) ?_;clear hK K;try simp only[kA]
    refine zS 21 [(2,22),(3,23),(4,24),(5,25),(6,26),(7,27),(8,28),(9,29),(10,30),(11,31),(12,32),(13,33),(14,34),(15,35),(16,36),(17,37),(18,38),(19,39),(20,40),(21,41),(22,42)] kS2 ?_;iterate 21 refine zT ?_ (y:=by intro wk hk;obtain⟨_,_,_,_,_,_⟩:=zkc6 hk s0 s2 p0 p1 p2 b0;go_simp;try with_reducible rfl)
    refine zN (zO 23 (fun K hK=>?_));go_simp;refine (kY qc qv _ _ qs bk _ (p:=p) (HI.out.1.ext (bC.stab p) kS2) (HI.out.2.ext (RI.stab p) kS2)).mono ?_;rintro e w4 ⟨rfl,hx4⟩;have kS3:ab w2 w4:=kS2.trans hx4;clear hx4;cases h4:jH qc qv qs bk with
    |false =>
     have HE:=zZ (nw HLL.out HKL.out (by rw[HG.out,h4];simp));replace h4:=zZ h4;refine hK.out _ _ (fun _=>kS3) ?_;clear hK K;try simp only[kA]
     refine zS 2 [(24,44),(25,45)] kS3 ?_;iterate 2 refine zT ?_ (y:=by intro wk hk;obtain⟨_,_,_,_,_,_⟩:=zkc6 hk s0 s2 p0 p1 p2 b0;go_simp;try with_reducible rfl)
     refine zN (zD ?_);go_wp2_with fail;go_ret
     exact⟨ag HE.out.symm,HF2.out.xt.trans kS3⟩
    |true =>
     have HT:=zZ (show jK s k=true by rw[HG.out,h1.out,h4,decide_eq_true h2.out,decide_eq_true h3.out];rfl);replace h4:=zZ h4;refine hK.out _ _ (fun _=>kS3) ?_;clear hK K;try simp only[kA]
     refine zS 2 [(24,44),(25,45)] kS3 ?_;iterate 2 refine zT ?_ (y:=by intro wk hk;obtain⟨_,_,_,_,_,_⟩:=zkc6 hk s0 s2 p0 p1 p2 b0;go_simp;try with_reducible rfl)
     refine zN (zD ?_);have HF9:Bx (aA w w4 [(w.heap.size,#[B C s.num,D (some ⟨bP,oP,none⟩) nB cP,D (some ⟨bB,oB,none⟩) nB cB,D AX nX cX],27)]):=⟨(HF2.out.ext kS3).take 1⟩
     clear kS kS2 kS3 s0 s2 p0 p1 p2 b0 h2b h3b HF2;go_wp2_with fail;go_roundw
     case rel=>exact⟨k+1,by go_num,by omega,⟨⟨HF9.out,fun j hj=>by rcases zU j k with h|h;exact HA.out j h;obtain rfl:j=k:=(by omega);exact HT.out⟩⟩⟩
     case measure=>simp[intOf];omega
  ·obtain rfl:nB=k:=by omega
   have HE:=zZ (Iw HLL.out fun j hj=>HR.out.2 j (by have:=HLP.out;omega));have HF9:=zZ HR.out.1.xt;clear HR;go_wp2_with fail;go_ret
   exact⟨ag HE.out.symm,HF9.out⟩
theorem mf(v:Value)(s:dl)(w:World)(hs:aR p w v s) :
  Calls prog 18 #[v] w fun e w'=>e=.returned (B C (aC s))/\ab w w':=by
 obtain⟨vP,vB,vX,rfl,hP,hB,hX,hnum⟩:=hs;obtain⟨AP,nP,cP,rfl,hnP,hcP,hmP,HLP⟩:=hP.open_;obtain⟨AB,nB,cB,rfl,hnB,hcB,hmB,HLB⟩:=hB.open_;obtain⟨AX,nX,cX,rfl,hnX,hcX,hmX,HLX⟩:=hX.open_;have HR0:Bx (jg p w (D AP nP cP) s.pap/\l9 p w (D AB nB cB) s.bk/\jh p w (D AX nX cX) s.xp):=⟨⟨hP,hB,hX⟩⟩
 obtain⟨hm1,hm2⟩:=hnum;clear hP hB hX;by_cases c1:0<=s.num/\s.num<=31;case neg =>
  have HE:=zZ (tk c1);go_enter func18,ntmps18
  go_wp2_with fail;all_goals first
   |(exfalso;omega)
   |(go_ret;exact⟨ag HE.out.symm,(zE _).alloc _⟩)
 obtain⟨n1,n2⟩:=c1;by_cases c2:1<=nP/\nP<=4/\nX<=60;case neg =>
  have HE:=zZ (te (s:=s) ⟨n1,n2⟩ (by rw[HLP.out,HLX.out];exact c2));go_enter func18,ntmps18
  go_wp2_with fail;all_goals first
   |(exfalso;omega)
   |(go_ret;exact⟨ag HE.out.symm,(zE _).alloc _⟩)
 obtain⟨p1,p2,x1⟩:=c2;have HC3:=zZ (C0 (s:=s) ⟨n1,n2⟩ (by rw[HLP.out,HLX.out];exact⟨p1,p2,x1⟩));obtain⟨w1,hw1⟩:=nm ((w.alloc (.cells #[B C s.num,D AP nP cP,D AB nB cB,D AX nX cX] 27)):World);have HF:Bx (aA w w1 [(w.heap.size,#[B C s.num,D AP nP cP,D AB nB cB,D AX nX cX],27)]):=⟨by rw[hw1];exact (aA.start w).push _ _ rfl⟩
 obtain⟨z0,z1,z2,z3⟩:=(HF.out.at_ 0 rfl).p4 rfl;go_enter func18,ntmps18
 go_upto_region 1 with (fail)
 rw[<-hw1];clear hw1;go_upto_region 5 with (fail)
 go_wp2_with fail;refine (pP s AP AB AX nP cP nB cB nX cX _ (p:=p) (HR0.out.1.ext (BQ.stab p) HF.out.xt) (HR0.out.2.1.ext (JY.stab p) HF.out.xt)).mono ?_;rintro e w2 ⟨rfl,hx2⟩;have HF2:=bx (HF.out.ext hx2);clear HF hx2 z0 z1 z2 z3;rcases Cj s with c3|c3;case inr =>
  have HE:=zZ (HC3.out.1 (by omega));rw[c3]at HE⊢;go_wp2_with fail;go_ret
  exact⟨ag HE.out.symm,HF2.out.xt⟩
 have HCR:=zZ (HC3.out.2 c3);rw[c3];clear HC3 c3;obtain⟨z0,z1,z2,z3⟩:=(HF2.out.at_ 0 rfl).p4 rfl;go_wp2_with fail;clear z0 z1 z2 z3;go_loopw [39] (fun s4 wr=>∃k:Nat,s4=B C k/\k<=nX/\Bx (aA w wr [(w.heap.size,#[B C s.num,D AP nP cP,D AB nB cB,D AX nX cX],27)]/\∀(j:Nat) x,j<k->s.xp[j]?=some x->ud s.pap.length x=true)) (fun k _=>nX-(intOf k).toNat)
 case atStart=>exact⟨0,rfl,by omega,⟨⟨HF2.out,fun j x hj=>by omega⟩⟩⟩
 case round =>
  clear HF2;obtain⟨i,rfl,hi,HR⟩:=hrel;obtain⟨z0,z1,z2,z3⟩:=(HR.out.1.at_ 0 rfl).p4 rfl;by_cases hin:i<nX
  ·obtain⟨bX,oX,_,_,rfl,-⟩:=HR0.out.2.2.at_ hin;obtain⟨xc,xe,xv,HX,x0,x1,x2⟩:=jh.read HR0.out.2.2 HR.out.1.xt.xt hin;have HXG:Bx (ud s.pap.length ⟨xc,xe,xv⟩=decide (0<=xc/\xc<=9999/\1<=xe/\xe<=99/\0<=xv/\xv<(nP:Int))):=⟨by unfold ud;rw[HLP.out]⟩
   have hx9:ab wr (wr.alloc (.cells #[B C xc,B C xe,B C xv] 90)):=(zE _).alloc _;have HF9:=bx (HR.out.1.ext hx9);have HA:Bx (∀(j:Nat) x,j<i->s.xp[j]?=some x->ud s.pap.length x=true):=⟨HR.out.2⟩
   obtain⟨y0,y1,y2,y3⟩:=(HF9.out.at_ 0 rfl).p4 rfl;clear HR hx9;by_cases hg:0<=xc/\xc<=9999/\1<=xe/\xe<=99/\0<=xv/\xv<(nP:Int)
   ·obtain⟨g1,g2,g3,g4,g5,g6⟩:=hg;have HT:=zZ (show ud s.pap.length ⟨xc,xe,xv⟩=true by rw[HXG.out];exact decide_eq_true ⟨g1,g2,g3,g4,g5,g6⟩);go_wp2_with fail;go_roundw
    case rel=>exact⟨i+1,by go_num,by omega,⟨⟨HF9.out,fun j y hj hy=>by rcases zU j i with h|h;exact HA.out j y h hy;obtain rfl:j=i:=(by omega);rw[HX.out]at hy;injection hy with hy;subst hy;exact HT.out⟩⟩⟩
    case measure=>simp[intOf];omega
   ·have HE:=zZ (show aC s=2 by
     rw[HCR.out,if_pos];exact wT.2 ⟨⟨xc,xe,xv⟩,zW HX.out,by rw[HXG.out,decide_eq_false hg];simp⟩)
    go_wp2_with fail;all_goals first
     |(exfalso;omega)
     |(go_ret;exact⟨ag HE.out.symm,HF9.out.xt⟩)
  ·obtain rfl:nX=i:=by omega
   have HXA:=zZ (show s.xp.all (ud s.pap.length)=true from xS.2 fun y hy=>by obtain⟨j,hj⟩:=zH hy;exact HR.out.2 j y (by have:=(zY.1 hj).1;have:=HLX.out;omega) hj)
   have HF2:Bx (aA w wr [(w.heap.size,#[B C s.num,D AP nP cP,D AB nB cB,D AX nX cX],27)]):=⟨HR.out.1⟩
   clear HR;go_wp2_with fail;clear z0 z1 z2 z3;go_loopw [6] (fun s6 wr=>∃k:Nat,s6=B C k/\1<=k/\(k<=nX\/k=1)/\Bx (aA w wr [(w.heap.size,#[B C s.num,D AP nP cP,D AB nB cB,D AX nX cX],27)]/\∀j,j+1<k->lW s.xp j=true)) (fun k _=>nX+1-(intOf k).toNat)
   case atStart=>exact⟨1,rfl,by omega,by omega,⟨⟨HF2.out,fun j hj=>by omega⟩⟩⟩
   case round =>
    clear HF2;obtain⟨m,rfl,hm0,hm1,HR⟩:=hrel;obtain⟨z0,z1,z2,z3⟩:=(HR.out.1.at_ 0 rfl).p4 rfl;by_cases hmn:m<nX
    ·obtain⟨bX,oX,_,_,rfl,-⟩:=HR0.out.2.2.at_ hmn;obtain⟨m',hm'⟩:∃m',m'+1=m:=⟨m-1,by omega⟩
     have hmn':m'<nX:=by omega
     obtain⟨xc,xe,xv,HX,x0,-⟩:=jh.read HR0.out.2.2 HR.out.1.xt.xt hmn';obtain⟨yc,ye,yv,HY,y0,-⟩:=jh.read HR0.out.2.2 HR.out.1.xt.xt hmn;have HAG:=zZ (show lW s.xp m'=decide (xc<yc) by unfold lW;rw[HX.out,show m'+1=m from hm',HY.out]);have hmm1:m'+1<=m:=by omega
     have hmm2:m<=m'+1:=by omega
     clear hm';have m1:IntKind.i64.wrap ((m:Int)-1)=(m':Int):=by rw[yN _ (by omega)];omega
     go_upto_region 17 with (fail)
     refine zQ 99 fun wd kS=>?_;refine zS 14 [(0,82),(1,83),(2,84),(3,85),(4,86),(5,87),(6,88),(7,89),(8,90),(9,91),(10,92),(11,93),(12,94),(13,95)] kS ?_;iterate 14 refine zT ?_ (y:=by intro wk hk;obtain⟨_,_,_⟩:=zkc3 hk z3 x0 y0;go_simp;try with_reducible rfl)
     refine zN (zD ?_);have HF3:=bx (HR.out.1.ext kS);have HA:Bx (∀j,j+1<m->lW s.xp j=true):=⟨HR.out.2⟩
     clear m1 kS z0 z1 z2 z3 HR;by_cases hxy:xc<yc
     ·have HT:=zZ (show lW s.xp m'=true by rw[HAG.out];exact decide_eq_true hxy);go_wp2_with fail;go_roundw
      case rel=>exact⟨m+1,by go_num,by omega,by omega,⟨⟨HF3.out,fun j hj=>by rcases zU (j+1) m with h|h;exact HA.out j h;obtain rfl:j=m':=(by omega);exact HT.out⟩⟩⟩
      case measure=>simp[intOf];omega
     ·have HE:=zZ (show aC s=5 by
       rw[HCR.out,if_neg (by rw[HXA.out];simp),if_pos];exact wT.2 ⟨m',yX.2 (by have:=HLX.out;omega),by rw[HAG.out,decide_eq_false hxy];simp⟩)
      go_wp2_with fail;go_ret
      exact⟨ag HE.out.symm,HF3.out.xt⟩
    ·have HE:=zZ (show aC s=0 by
      rw[HCR.out,if_neg (by rw[HXA.out];simp),if_neg];rw[hD fun j hj=>HR.out.2 j (by have:=HLX.out;omega)];simp)
     go_wp2_with fail;go_ret
     exact⟨ag HE.out.symm,HR.out.1.xt⟩
theorem Jg(v:Value)(xs:List fv)(c:Int)(w:World)(h:jh p w v xs)(hm:Ae xs (fun y=>bg y.cand c))(hn:xs.length<=1000000000) :
  Calls prog 112 #[v,B C c,.func (.func 113) #[] #[]] w fun e w'=>(∃(i:Nat) (b:Bool),e=.returned (.tuple #[B C (i:Int),.bool b])/\tF xs (fun y=>bg y.cand c) i b)/\ab w w':=by
 obtain⟨A,n,c0,rfl,hnc,hcc,hnn,HL⟩:=h.open_;have HV:Bx (jh p w (D A n c0) xs):=⟨h⟩
 have HM:Bx (Ae xs (fun y=>bg y.cand c)):=⟨hm⟩
 have hn3:n<=1000000000:=by have:=HL.out;omega
 clear h hm hn;have HF:Bx (aA w w []):=⟨aA.start w⟩
 go_enter func112,ntmps112
 go_wp2_with fail;go_loopw [9,10] (fun s9 s10 wr=>∃lo hi:Nat,s9=B C lo/\s10=B C hi/\lo<=hi/\hi<=n/\Bx (aA w wr []/\C9 xs (fun y=>bg y.cand c) lo hi)) (fun s9 s10 _=>(intOf s10).toNat-(intOf s9).toNat)
 case atStart=>exact⟨0,n,rfl,rfl,by omega,by omega,⟨⟨HF.out,by have:=C9.start xs (fun y=>bg y.cand c);rw[HL.out]at this;exact this⟩⟩⟩
 case round =>
  obtain⟨lo,hi,rfl,rfl,hlh,hhn,HR⟩:=hrel;have HFr:Bx (aA w wr []):=⟨HR.out.1⟩
  have HB:Bx (C9 xs (fun y=>bg y.cand c) lo hi):=⟨HR.out.2⟩
  clear HR HF;by_cases hlt:lo<hi
  ·obtain⟨m,hm⟩:=nm ((lo+hi)/2:Nat);have hm1:lo<=m:=by omega
   have hm2:m<hi:=by omega
   have hmn:m<n:=by omega
   have hdiv:((lo:Int)+(hi:Int))/2=(m:Int):=by omega
   clear hm;obtain⟨b,off,_,_,rfl,-⟩:=HV.out.at_ (show m<n by omega);obtain⟨cs,⟨xa,xb,xd⟩,-,hc0,⟨hcs,-⟩,HX⟩:=(HV.out.ext (lR.stab p) HFr.out.xt).cell_ (show m<n by omega);have x0:=hc0 0 (B C xa) (by rw[hcs];rfl);have x1:=hc0 1 (B C xb) (by rw[hcs];rfl);have x2:=hc0 2 (B C xd) (by rw[hcs];rfl);rw[yQ]at x0;clear hc0 hcs;go_upto_region 5 with (fail)
   clear hdiv;go_wp2_with (go_at_call 113;refine (AA xa xb xd c _).mono ?_;rintro e w3 ⟨rfl,hx3⟩;rcases bJ xa c with ⟨h1,e1⟩|⟨h1,e1⟩|⟨h1,e1⟩<;>rw[e1])
   ·have HFN:Bx (aA w w3 []):=⟨HFr.out.ext hx3⟩
    have HE:=zZ e1;have HB2:=zZ (HB.out.up HM.out hm2 HX.out (show bg xa c<0 by rw[HE.out];decide));clear e1 h1 HX HFr HB hx3 x0 x1 x2;go_wp2_with fail;go_roundw
    case rel=>exact⟨m+1,hi,by go_num,rfl,by omega,by omega,⟨⟨HFN.out,HB2.out⟩⟩⟩
    case measure=>simp[intOf];omega
   ·have HFN:Bx (aA w w3 []):=⟨HFr.out.ext hx3⟩
    have HE:=zZ e1;have HB2:=zZ (HB.out.down HM.out hm1 hm2 HX.out (show 0<=bg xa c by rw[HE.out];decide));clear e1 h1 HX HFr HB hx3 x0 x1 x2;go_wp2_with fail;go_roundw
    case rel=>exact⟨lo,m,rfl,rfl,by omega,by omega,⟨⟨HFN.out,HB2.out⟩⟩⟩
    case measure=>simp[intOf];omega
   ·have HFN:Bx (aA w w3 []):=⟨HFr.out.ext hx3⟩
    have HE:=zZ e1;have HB2:=zZ (HB.out.down HM.out hm1 hm2 HX.out (show 0<=bg xa c by rw[HE.out];decide));clear e1 h1 HX HFr HB hx3 x0 x1 x2;go_wp2_with fail;go_roundw
    case rel=>exact⟨lo,m,rfl,rfl,by omega,by omega,⟨⟨HFN.out,HB2.out⟩⟩⟩
    case measure=>simp[intOf];omega
  ·obtain rfl:lo=hi:=by omega
   by_cases hln:lo<n
   ·obtain⟨b,off,_,_,rfl,-⟩:=HV.out.at_ (show lo<n by omega);obtain⟨cs,⟨xa,xb,xd⟩,-,hc0,⟨hcs,-⟩,HX⟩:=(HV.out.ext (lR.stab p) HFr.out.xt).cell_ (show lo<n by omega);have x0:=hc0 0 (B C xa) (by rw[hcs];rfl);have x1:=hc0 1 (B C xb) (by rw[hcs];rfl);have x2:=hc0 2 (B C xd) (by rw[hcs];rfl);rw[yQ]at x0;clear hc0 hcs;go_wp2_with (go_at_call 113;refine (AA xa xb xd c _).mono ?_;rintro e w3 ⟨rfl,hx3⟩;rcases bJ xa c with ⟨h1,e1⟩|⟨h1,e1⟩|⟨h1,e1⟩<;>rw[e1])
    ·have HFN:Bx (aA w w3 []):=⟨HFr.out.ext hx3⟩
     have HE:=zZ e1;have HFD:=zZ (HB.out.miss HM.out fun y hy=>by rw[HX.out]at hy;injection hy with hy;subst hy;show bg xa c≠0;rw[HE.out];decide);go_wp2_with fail;refine bodyPost_ret (v:=.tuple #[B C (lo:Int),.bool false]) (by simp[results,results112,go_sem]) rfl ⟨⟨lo,false,rfl,HFD.out⟩,HFN.out.xt⟩
    ·have HFN:Bx (aA w w3 []):=⟨HFr.out.ext hx3⟩
     have HE:=zZ e1;have HFD:=zZ (HB.out.hit HX.out HE.out);go_wp2_with fail;refine bodyPost_ret (v:=.tuple #[B C (lo:Int),.bool true]) (by simp[results,results112,go_sem]) rfl ⟨⟨lo,true,rfl,HFD.out⟩,HFN.out.xt⟩
    ·have HFN:Bx (aA w w3 []):=⟨HFr.out.ext hx3⟩
     have HE:=zZ e1;have HFD:=zZ (HB.out.miss HM.out fun y hy=>by rw[HX.out]at hy;injection hy with hy;subst hy;show bg xa c≠0;rw[HE.out];decide);go_wp2_with fail;refine bodyPost_ret (v:=.tuple #[B C (lo:Int),.bool false]) (by simp[results,results112,go_sem]) rfl ⟨⟨lo,false,rfl,HFD.out⟩,HFN.out.xt⟩
   ·obtain rfl:lo=n:=by omega
    have HFD:=zZ (HB.out.miss HM.out fun y hy=>by have:=(zY.1 hy).1;have:=HL.out;omega);go_wp2_with fail;refine bodyPost_ret (v:=.tuple #[B C (lo:Int),.bool false]) (by simp[results,results112,go_sem]) rfl ⟨⟨lo,false,rfl,HFD.out⟩,HFr.out.xt⟩
theorem tK(x:Int)(w:World):Calls prog 116 #[B C x] w fun e w'=>e=.returned (.bool (!fE x))/\w=w':=by
 go_enter func116,ntmps116
 go_wp2
 all_goals (go_ret;exact⟨aa (by unfold fE;first|(simp;done)|(simp;omega)|(rw[yE];simp;done)|(rw[yE];simp;omega)),rfl⟩)
theorem wy(v:Value)(l:List Int)(w:World)(h:ak p w v l) :
  Calls prog 158 #[v,.func (.func 116) #[] #[]] w fun e w'=>e=.returned (B C (Cl (fun x=>!fE x) l))/\w=w':=by
 obtain⟨A,n,c,rfl,hnc,hc,hnn,HL⟩:=h.open_;have H:=zZ h;clear h;go_enter func158,ntmps158
 go_wp2
 go_loop [8] (fun i=>∃k:Nat,k<=n/\i=B C k/\Hid ((l.take k).all (fun x=>!!fE x)=true)) (fun i=>n-(intOf i).toNat)
 case atStart=>exact⟨0,xL _,rfl,by simp[Hid]⟩
 case round =>
  obtain⟨k,hk,rfl,HK⟩:=hrel;by_cases hlt:k<n
  ·obtain⟨b,off,x,rfl,hcx,HX,hx1,hx2⟩:=H.out.at_ hlt;cases hb:fE x
   ·have HB:=zZ hb;clear hb;go_wp2_with (go_at_call 116;refine (tK _ _).mono ?_;rintro e w' ⟨rfl,rfl⟩;rw[HB.out]);go_ret
    exact⟨ag (Im HX.out (by simp[HB.out]) HK.out),rfl⟩
   ·have HB:=zZ hb;clear hb;go_wp2_with (go_at_call 116;refine (tK _ _).mono ?_;rintro e w' ⟨rfl,rfl⟩;rw[HB.out]);go_round
    case rel=>exact⟨k+1,by omega,by go_num,by show (l.take (k+1)).all _=true;rw[Ak HX.out,HK.out];simp[HB.out]⟩
    case measure=>simp[intOf];omega
  ·go_wp2
   go_ret
   have:=HK.out;rw[bh (by have:=HL.out;omega)]at this;exact⟨ag (E5 this),rfl⟩
theorem pK(v:Value)(l:List Int)(w:World)(h:ak p w v l) :
  Calls prog 115 #[v,.func (.func 116) #[] #[]] w fun e w'=>e=.returned (.bool (l.any (fun x=>!fE x)))/\w=w':=by
 have H:=zZ h;clear h;go_enter func115,ntmps115
 go_wp2_with (go_at_call 158;refine (wy _ l _ H.out).mono ?_;rintro e w' ⟨rfl,rfl⟩);go_ret
 exact⟨aa (Hc _ _),rfl⟩
theorem Dy{s:dl}(h:dU s)(c:Int):Ae s.xp (fun y=>bg y.cand c):=by
 refine Jh h.asc_ (fun x y hxy hc=>?_) (fun x y hxy hc=>?_)
 ·unfold vr at hxy;simp only[decide_eq_true_eq]at hxy;rcases bJ y.cand c with ⟨a,e⟩|⟨a,e⟩|⟨a,e⟩<;>rcases bJ x.cand c with ⟨b,f⟩|⟨b,f⟩|⟨b,f⟩<;>(try simp only at hc⊢)<;>omega
 ·unfold vr at hxy;simp only[decide_eq_true_eq]at hxy;rcases bJ y.cand c with ⟨a,e⟩|⟨a,e⟩|⟨a,e⟩<;>rcases bJ x.cand c with ⟨b,f⟩|⟨b,f⟩|⟨b,f⟩<;>(try simp only at hc⊢)<;>omega
theorem IF{s:dl}(h:dU s){c:Int}{i:Nat}{b:Bool}(hf:tF s.xp (fun y=>bg y.cand c) i b):(b=true->∃x,s.xp[i]?=some x/\fo s.xp c=some x)/\(b=false->fo s.xp c=none):=by refine hf.find (Dy h c) fun x _=>?_;rcases bJ x.cand c with ⟨a,e⟩|⟨a,e⟩|⟨a,e⟩<;>(try simp only[decide_eq_true_eq])<;>omega
theorem qE(v vc:Value)(s:dl)(lp lc lg lv:Int)(ch:List Int)(w:World){q:Nat}(hp:p<w.heap.size)(hs:aR p w v s)(hc:ak q w vc ch)(hl:cJ.wf ⟨lp,lc,lg,lv⟩)(hok:dU s) :
  Calls prog 70 #[v,.agg #[B C lp,B C lc,B C lg,B C lv],vc] w fun e w'=>e=.returned (.bool (bH s ⟨lp,lc,lg,lv⟩ ch))/\ab w w':=by
 obtain⟨vP,vB,vX,rfl,hP,hB,hX,hnum⟩:=hs;obtain⟨AP,nP,cP,rfl,hnP,hcP,hmP,HLP⟩:=hP.open_;obtain⟨AB,nB,cB,rfl,hnB,hcB,hmB,HLB⟩:=hB.open_;obtain⟨AX,nX,cX,rfl,hnX,hcX,hmX,HLX⟩:=hX.open_;obtain⟨AC,nC,cC,rfl,hnC,hcC,hmC,HLC⟩:=hc.open_;have HR0:Bx (jg p w (D AP nP cP) s.pap/\l9 p w (D AB nB cB) s.bk/\jh p w (D AX nX cX) s.xp/\ak q w (D AC nC cC) ch):=⟨⟨hP,hB,hX,hc⟩⟩
 have HLG:Bx (aU lg):=⟨hl.2.2.1⟩
 have HOK:Bx (dU s):=⟨hok⟩
 have hx60:s.xp.length<=60:=hok.len.2.2;obtain⟨hl1,hl2⟩:=hl.2.2.1;clear hP hB hX hc hnum hl hok;obtain⟨w1,hw1⟩:=nm (((w.alloc (.cells #[B C s.num,D AP nP cP,D AB nB cB,D AX nX cX] 27)).alloc (.cells #[B C lp,B C lc,B C lg,B C lv] 45)):World);have HF:Bx (aA w w1 [(w.heap.size,#[B C s.num,D AP nP cP,D AB nB cB,D AX nX cX],27),(w.heap.size+1,#[B C lp,B C lc,B C lg,B C lv],45)]):=⟨by rw[hw1];exact ((aA.start w).push _ _ rfl).push _ _ (by simp)⟩
 obtain⟨z0,z1,z2,z3⟩:=(HF.out.at_ 0 rfl).p4 rfl;obtain⟨l0,l1,l2,l3⟩:=(HF.out.at_ 1 rfl).p4 rfl;go_enter func70,ntmps70
 go_upto_region 1 with (fail)
 rw[<-hw1];clear hw1;go_wp2_with fail;refine (Jg _ s.xp lc _ (HR0.out.2.2.1.ext (lR.stab p) HF.out.xt) (Dy HOK.out lc) (by omega)).mono ?_;rintro e w2 ⟨⟨i,b,rfl,hfd⟩,hx2⟩;have HFD:=zZ (IF HOK.out hfd);have HF2:=bx (HF.out.ext hx2);have hib:i<=nX:=by have:=hfd.1;have:=HLX.out;omega
 clear HF hx2 z0 z1 z2 z3 l0 l1 l2 l3 hfd;obtain⟨z0,z1,z2,z3⟩:=(HF2.out.at_ 0 rfl).p4 rfl;obtain⟨l0,l1,l2,l3⟩:=(HF2.out.at_ 1 rfl).p4 rfl;go_upto_region 2 with (fail)
 by_cases hpn:lp=s.num;case neg =>
  have HE:=zZ (show bH s ⟨lp,lc,lg,lv⟩ ch=false from sC hpn);have hcb:(lp != s.num)=true:=by simp[hpn]
  replace hpn:=zZ hpn;refine zQ 99 fun wd kS=>?_;refine zS 20 [(0,18),(1,19),(2,20),(3,21),(4,22),(5,23),(6,24),(7,25),(8,26),(9,27),(10,28),(11,29),(12,30),(13,31),(14,32),(15,33),(16,34),(17,35),(18,36),(19,37)] kS ?_;iterate 6 refine zT ?_ (y:=by intro wk hk;obtain⟨_,_⟩:=zkc2 hk z0 l0;go_simp;try with_reducible rfl)
  iterate 2 (apply zK;exact⟨rfl,rfl⟩;simp only[kA];exact rfl)
  iterate 2 refine zT ?_ (y:=by intro wk hk;obtain⟨_,_⟩:=zkc2 hk z0 l0;go_simp;try with_reducible rfl)
  iterate 9 (apply zK;exact⟨rfl,rfl⟩;simp only[kA];exact rfl)
  refine zT ?_ (y:=by intro wk hk;obtain⟨_,_⟩:=zkc2 hk z0 l0;go_simp;try with_reducible rfl);refine zN (zD ?_);go_wp2_with fail;go_ret
  exact⟨aa HE.out.symm,HF2.out.xt.trans kS⟩
 have hcb:(lp != s.num)=false:=by simp[hpn]
 have HPN:=zZ hpn;clear hpn;cases b with
 |false =>
  have HE:=zZ (show bH s ⟨lp,lc,lg,lv⟩ ch=false from qO (HFD.out.2 rfl));refine zQ 99 fun wd kS=>?_;refine zS 20 [(0,18),(1,19),(2,20),(3,21),(4,22),(5,23),(6,24),(7,25),(8,26),(9,27),(10,28),(11,29),(12,30),(13,31),(14,32),(15,33),(16,34),(17,35),(18,36),(19,37)] kS ?_;iterate 10 refine zT ?_ (y:=by intro wk hk;obtain⟨_,_⟩:=zkc2 hk z0 l0;go_simp;try with_reducible rfl)
  iterate 9 (apply zK;exact⟨rfl,rfl⟩;simp only[kA];exact rfl)
  refine zT ?_ (y:=by intro wk hk;obtain⟨_,_⟩:=zkc2 hk z0 l0;go_simp;try with_reducible rfl);refine zN (zD ?_);go_wp2_with fail;go_ret
  exact⟨aa HE.out.symm,HF2.out.xt.trans kS⟩
 |true =>
  obtain⟨⟨xc,xe,xv⟩,hxi,hfx⟩:=HFD.out.1 rfl;have hiX:i<nX:=by have:=(zY.1 hxi).1;have:=HLX.out;omega
  obtain⟨bX,oX,_,_,rfl,-⟩:=HR0.out.2.2.1.at_ hiX;obtain⟨yc,ye,yv,HY,x0,x1,x2⟩:=jh.read HR0.out.2.2.1 HF2.out.xt.xt hiX;obtain⟨rfl,rfl,rfl⟩:xc=yc/\xe=ye/\xv=yv:=by have:=HY.out;rw[hxi]at this;injection this with this;injection this with a b c;exact⟨a,b,c⟩
  have HX:=zZ hfx;have hxm:=(qR hfx).1;have hxb:=rL HOK.out hxm;simp only at hxb;obtain⟨xb1,xb2,xb3,xb4,xb5,xb6⟩:=hxb;obtain⟨pq,bk,hpq,hbk,-,-,-,-⟩:=rT HOK.out xb3 xb4;have hbks:=HOK.out.bks;obtain⟨r,rfl⟩:=zG xb3;rw[yC]at hpq hbk;have hrP:r<nP:=by have:=HLP.out;omega
  have hrB:r<nB:=by have:=HLB.out;omega
  clear hfx hxm HFD hxi HY x0 x1;by_cases hv:(r:Int)=lv;case neg =>
   have HE:=zZ (show bH s ⟨lp,lc,lg,lv⟩ ch=false from tG HX.out hv);have hvb:((r:Int)!=lv)=true:=by simp[hv]
   replace hv:=zZ hv;refine zQ 99 fun wd kS=>?_;refine zS 20 [(0,18),(1,19),(2,20),(3,21),(4,22),(5,23),(6,24),(7,25),(8,26),(9,27),(10,28),(11,29),(12,30),(13,31),(14,32),(15,33),(16,34),(17,35),(18,36),(19,37)] kS ?_;iterate 20 refine zT ?_ (y:=by intro wk hk;obtain⟨_,_,_,_,_⟩:=zkc5 hk z0 z3 l0 l3 x2;go_simp;try with_reducible rfl)
   refine zN (zD ?_);go_wp2_with fail;go_ret
   exact⟨aa HE.out.symm,HF2.out.xt.trans kS⟩
  subst hv;have hvb:((r:Int)!=(r:Int))=false:=by simp
  refine zQ 99 fun wd kS=>?_;refine zS 20 [(0,18),(1,19),(2,20),(3,21),(4,22),(5,23),(6,24),(7,25),(8,26),(9,27),(10,28),(11,29),(12,30),(13,31),(14,32),(15,33),(16,34),(17,35),(18,36),(19,37)] kS ?_;iterate 20 refine zT ?_ (y:=by intro wk hk;obtain⟨_,_,_,_,_⟩:=zkc5 hk z0 z3 l0 l3 x2;go_simp;try with_reducible rfl)
  refine zN (zD ?_);have HF3:=bx (HF2.out.ext kS);clear kS HF2 z0 z1 z2 z3 l0 l1 l2 l3 x2 hvb;obtain⟨bP,oP,_,_,rfl,-⟩:=HR0.out.1.at_ hrP;obtain⟨bB,oB,_,_,rfl,-⟩:=HR0.out.2.1.at_ hrB;obtain⟨Ab,nb,cb,b0,hIB,HNB⟩:=lJ HR0.out.2.1 hbk HF3.out.xt.xt;obtain⟨Aq,nq,cq,q0,q1,q2,hIQ,hq1,hq2⟩:=kn HR0.out.1 hpq HF3.out.xt.xt;obtain⟨pc,pv,pps⟩:=pq;simp only at q0 q1 q2 hIQ hq1 hq2;have HF0:=zZ (show bH s ⟨lp,lc,lg,(r:Int)⟩ ch=(decide (0<=lg/\lg<(bk.length:Int))&&(decide (ch.length=(dr pc pv pps bk lg).length)&&ch.all fE)) by rw[qH HX.out (by simp only[yC];exact hpq) (by simp only[yC];exact hbk),HPN.out,decide_eq_true rfl,decide_eq_true rfl,yK,yK])
  have HI:Bx (oa p wd (D Aq nq cq) pps/\oc p wd (D Ab nb cb) bk):=⟨⟨hIQ,hIB⟩⟩
  clear hpq hbk hbks hIQ hIB hq1 hq2;obtain⟨z0,z1,z2,z3⟩:=(HF3.out.at_ 0 rfl).p4 rfl;obtain⟨l0,l1,l2,l3⟩:=(HF3.out.at_ 1 rfl).p4 rfl;go_upto_region 5 with (fail)
  have hx4:ab wd (wd.alloc (.cells #[D Ab nb cb] 79)):=(zE _).alloc _;have HF4:Bx (aA w (wd.alloc (.cells #[D Ab nb cb] 79)) [(w.heap.size,#[B C s.num,D (some ⟨bP,oP,none⟩) nP cP,D (some ⟨bB,oB,none⟩) nB cB,D (some ⟨bX,oX,none⟩) nX cX],27),(w.heap.size+1,#[B C lp,B C lc,B C lg,B C (r:Int)],45),(wd.heap.size,#[D Ab nb cb],79)]):=⟨HF3.out.push _ _ rfl⟩
  have HI4:Bx (oa p (wd.alloc (.cells #[D Ab nb cb] 79)) (D Aq nq cq) pps/\oc p (wd.alloc (.cells #[D Ab nb cb] 79)) (D Ab nb cb) bk):=⟨HI.out.1.ext (bC.stab p) hx4,HI.out.2.ext (RI.stab p) hx4⟩
  replace q0:=hx4.cell q0;replace q1:=hx4.cell q1;replace q2:=hx4.cell q2;clear hx4 HI z0 z1 z2 z3 l0 l1 l2 l3 b0 HF3;obtain⟨w4,hw4⟩:=nm ((wd.alloc (.cells #[D Ab nb cb] 79)):World);rw[<-hw4]at HF4 HI4 q0 q1 q2;rw[<-hw4];clear hw4;obtain⟨gb,hgb⟩:=nm wd.heap.size;rw[<-hgb]at HF4;rw[<-hgb];clear hgb;obtain⟨z0,z1,z2,z3⟩:=(HF4.out.at_ 0 rfl).p4 rfl;obtain⟨l0,l1,l2,l3⟩:=(HF4.out.at_ 1 rfl).p4 rfl;have b0:=(HF4.out.at_ 2 rfl).c 0 rfl;by_cases hg0:0<=lg/\lg<(nb:Int)
  case neg =>
   have HE:=zZ (show bH s ⟨lp,lc,lg,(r:Int)⟩ ch=false by rw[HF0.out,decide_eq_false (by have:=HNB.out;omega)];rfl);go_wp2_with fail;all_goals first
    |(exfalso;omega)
    |(go_ret;exact⟨aa HE.out.symm,HF4.out.xt⟩)
  obtain⟨hg1,hgn⟩:=hg0;have HF1:=zZ (show bH s ⟨lp,lc,lg,(r:Int)⟩ ch=(decide (ch.length=(dr pc pv pps bk lg).length)&&ch.all fE) by rw[HF0.out,decide_eq_true (by have:=HNB.out;omega),yK]);have hgd:decide (lg<0)=false:=decide_eq_false (by omega);have hge:decide ((nb:Int)<=lg)=false:=decide_eq_false (by omega);go_upto_region 7 with (fail)
  refine zQ 99 fun we kS=>?_;refine zS 11 [(0,55),(1,56),(2,57),(3,58),(4,59),(5,60),(6,61),(7,62),(8,63),(9,64),(10,65)] kS ?_;iterate 11 refine zT ?_ (y:=by intro wk hk;obtain⟨_,_,_,_,_,_,_⟩:=zkc7 hk z1 l2 l3 q0 q1 q2 b0;go_simp;try with_reducible rfl)
  refine zN (zO 11 (fun K hK=>?_));go_simp;refine (Db pc pv lg _ _ pps bk _ (p:=p) (zB hp (HF4.out.xt.trans kS).size) (HI4.out.1.ext (bC.stab p) kS) (HI4.out.2.ext (RI.stab p) kS) HLG.out).mono ?_;rintro e w6 ⟨v6,rfl,hI6,hx6⟩;have kS2:ab w4 w6:=kS.trans hx6;obtain⟨A6,n6,c6,rfl,-,-,hn6,HL6⟩:=hI6.open_;clear hI6;refine hK.out _ _ (fun _=>kS2) ?_;clear hK K;try simp only[kA]
  refine zS 1 [(12,67)] kS2 ?_;refine zT ?_ (y:=by intro wk hk;obtain⟨_,_,_,_,_,_,_⟩:=zkc7 hk z1 l2 l3 q0 q1 q2 b0;go_simp;try with_reducible rfl);refine zN ?_;by_cases hln:nC=n6
  ·have HE:=zZ (show bH s ⟨lp,lc,lg,(r:Int)⟩ ch=ch.all fE by rw[HF1.out,decide_eq_true (by have:=HLC.out;have:=HL6.out;omega),yK]);subst hln;have hnb:((nC:Int)!=(nC:Int))=false:=by simp
   refine zS 1 [(13,68)] kS2 ?_;refine zT ?_ (y:=by intro wk hk;obtain⟨_,_,_,_,_,_,_⟩:=zkc7 hk z1 l2 l3 q0 q1 q2 b0;go_simp;try with_reducible rfl);refine zN (zD ?_);go_wp2_with fail;refine (pK _ ch _ (HR0.out.2.2.2.ext (HF4.out.xt.trans kS2))).mono ?_;rintro e w7 ⟨rfl,rfl⟩;go_wp2_with fail;go_ret
   exact⟨aa (by rw[HE.out];exact IG fE ch),HF4.out.xt.trans kS2⟩
  ·have HE:=zZ (show bH s ⟨lp,lc,lg,(r:Int)⟩ ch=false by rw[HF1.out,decide_eq_false (by have:=HLC.out;have:=HL6.out;omega)];rfl);have hne:((nC:Int)!=(n6:Int))=true:=by simp;omega
   refine zS 1 [(13,68)] kS2 ?_;refine zT ?_ (y:=by intro wk hk;obtain⟨_,_,_,_,_,_,_⟩:=zkc7 hk z1 l2 l3 q0 q1 q2 b0;go_simp;try with_reducible rfl);refine zN (zD ?_);go_wp2_with fail;go_ret
   exact⟨aa HE.out.symm,HF4.out.xt.trans kS2⟩
theorem sH(v vc:Value)(s:dl)(lp lc lg lv:Int)(ch:List Int)(w:World){q:Nat}(hp:p<w.heap.size)(hs:aR p w v s)(hc:ak q w vc ch)(hl:cJ.wf ⟨lp,lc,lg,lv⟩) :
  Calls prog 36 #[v,.agg #[B C lp,B C lc,B C lg,B C lv],vc] w fun e w'=>e=.returned (.bool (eC s ⟨lp,lc,lg,lv⟩ ch))/\ab w w':=by
 have HS0:=zZ hs;obtain⟨vP,vB,vX,rfl,hP,hB,hX,hnum⟩:=hs;obtain⟨AP,nP,cP,rfl,-⟩:=hP.open_;obtain⟨AB,nB,cB,rfl,-⟩:=hB.open_;obtain⟨AX,nX,cX,rfl,-⟩:=hX.open_;obtain⟨AC,nC,cC,rfl,-⟩:=hc.open_;have HC:=zZ hc;have HL:=zZ hl;clear hP hB hX hc hnum hl;obtain⟨w1,hw1⟩:=nm (((w.alloc (.cells #[B C s.num,D AP nP cP,D AB nB cB,D AX nX cX] 27)).alloc (.cells #[B C lp,B C lc,B C lg,B C lv] 45)):World);have HF:Bx (aA w w1 [(w.heap.size,#[B C s.num,D AP nP cP,D AB nB cB,D AX nX cX],27),(w.heap.size+1,#[B C lp,B C lc,B C lg,B C lv],45)]):=⟨by rw[hw1];exact ((aA.start w).push _ _ rfl).push _ _ (by simp)⟩
 obtain⟨z0,z1,z2,z3⟩:=(HF.out.at_ 0 rfl).p4 rfl;go_enter func36,ntmps36
 go_upto_region 1 with (fail)
 rw[<-hw1];clear hw1;go_wp2_with fail;refine (mf _ s _ (HS0.out.ext HF.out.xt)).mono ?_;rintro e w2 ⟨rfl,hx2⟩;have HF2:=bx (HF.out.ext hx2);clear HF hx2 z0 z1 z2 z3;obtain⟨z0,z1,z2,z3⟩:=(HF2.out.at_ 0 rfl).p4 rfl;obtain⟨l0,l1,l2,l3⟩:=(HF2.out.at_ 1 rfl).p4 rfl;by_cases hck:aC s=0
 ·have HE:=zZ (show eC s ⟨lp,lc,lg,lv⟩ ch=bH s ⟨lp,lc,lg,lv⟩ ch by unfold eC;rw[decide_eq_true hck];rfl);have HOK:Bx (dU s):=⟨iL.1 hck⟩
  rw[hck];clear hck;go_wp2_with fail;refine (qE _ _ s lp lc lg lv ch _ (p:=p) (q:=q) (zB hp HF2.out.xt.size) (HS0.out.ext HF2.out.xt) (HC.out.ext HF2.out.xt) HL.out HOK.out).mono ?_;rintro e w3 ⟨rfl,hx3⟩;go_wp2_with fail;go_ret
  exact⟨aa HE.out.symm,HF2.out.xt.trans hx3⟩
 ·have HE:=zZ (show eC s ⟨lp,lc,lg,lv⟩ ch=false by unfold eC;rw[decide_eq_false hck];rfl);have hcb:(aC s==0)=false:=by simp[hck]
  go_wp2_with fail;go_ret
  exact⟨aa HE.out.symm,HF2.out.xt⟩
noncomputable def rM(s:dl)(l:List aj):r6:=if aC s=0 then cQ s (ay l) else ⟨[],[]⟩
theorem aW(v vl:Value)(s:dl)(l:List aj)(w:World)(hp:p<w.heap.size)(hT:cK w)(hs:aR p w v s)(hv:au p w vl l)(hn:l.length<=300) :
  Calls prog 32 #[v,vl] w fun e w'=>(∃vI,e=.returned (.tuple #[vI,B C (aC s)])/\aK p w' vI (rM s l))/\ab w w':=by
 obtain⟨vP,vB,vX,rfl,hP,hB,hX,hnum⟩:=hs;obtain⟨AP,nP,cP,rfl,-⟩:=hP.open_;obtain⟨AB,nB,cB,rfl,-⟩:=hB.open_;obtain⟨AX,nX,cX,rfl,-⟩:=hX.open_;obtain⟨Al,nl,cl,rfl,-⟩:=hv.open_;have HS:Bx (aR p w (.agg #[B C s.num,D AP nP cP,D AB nB cB,D AX nX cX]) s):=⟨⟨_,_,_,rfl,hP,hB,hX,hnum⟩⟩
 have HV:Bx (au p w (D Al nl cl) l):=⟨hv⟩
 have HT:Bx (cK w):=⟨hT⟩
 have HN:Hid (l.length<=300):=hn;clear hP hB hX hnum hv hT hn;obtain⟨w1,hw1⟩:=nm (((w.alloc (.cells #[B C s.num,D AP nP cP,D AB nB cB,D AX nX cX] 27)).alloc (.cells #[D none 0 0,D none 0 0] 59)):World);have HF:Bx (aA w w1 [(w.heap.size,#[B C s.num,D AP nP cP,D AB nB cB,D AX nX cX],27),(w.heap.size+1,#[D none 0 0,D none 0 0],59)]):=⟨by rw[hw1];exact ((aA.start w).push _ _ rfl).push _ _ (by simp)⟩
 go_enter func32,ntmps32
 go_upto_region 1 with (fail)
 rw[<-hw1];clear hw1;obtain⟨z0,z1,z2,z3⟩:=(HF.out.at_ 0 rfl).p4 rfl;go_wp2_with fail;refine (mf _ s _ (HS.out.ext HF.out.xt)).mono ?_;rintro e w2 ⟨rfl,hx2⟩;have HF2:=bx (HF.out.ext hx2);clear HF hx2 z0 z1 z2 z3;by_cases hck:aC s=0;case neg =>
  have HCK:=zZ hck;have hcb:(aC s != 0)=true:=by simp[hck]
  clear hck;obtain⟨r0,r1⟩:=(HF2.out.at_ 1 rfl).p2 rfl;have f0:=(HF2.out.at_ 1 rfl).froz;have f1:=f0;go_wp2_with fail;have h9:=HF2.out.setAll 1 rfl [D none 0 0,D none 0 0] rfl;refine bodyPost_ret (v:=.tuple #[.agg #[D none 0 0,D none 0 0],B C (aC s)]) (by simp[results,results32,go_sem,r0,r1]) rfl ⟨⟨_,rfl,?_⟩,h9.xt⟩;unfold rM;rw[if_neg HCK.out];exact⟨_,_,rfl,bj.nil _ _ _ _,bj.nil _ _ _ _⟩
 have HOK:Bx (dU s):=⟨iL.1 hck⟩
 have hcb:(aC s != 0)=false:=by simp[hck]
 rw[hck];clear hcb;have HCK:=zZ hck;clear hck;go_upto_region 4 with (fail)
 go_upto_region 7 with (go_at_call 22;refine (rj _ l _ (zB hp HF2.out.xt.size) (HV.out.ext (bR.stab p) HF2.out.xt) HN.out).mono ?_;rintro e w3 ⟨⟨vo,rfl,b,n,hpb,rfl,hnl,hI⟩,hx3⟩;have HNL:=zZ hnl;clear hnl)
 have HF3:=bx (HF2.out.ext hx3);have HC:Bx (au p w3 (D (some ⟨b,0,none⟩) n n) (ay l)):=⟨hI⟩
 have hn3:n<=300:=by have:=Bd l;have:=HN.out;have:=HNL.out;omega
 obtain⟨L,hL⟩:=nm (ay l);have HLL:=zZ hL;rw[<-hL]at HC HNL;clear hL;clear hx3 hI HF2 hpb;have hm1:=fun W=>FC n (by omega) W;have hmm:=@run_makeMap prog;go_upto_region 9 with (fail)
 clear hm1 hmm;obtain⟨bs,hbs⟩:=nm w3.heap.size;obtain⟨w4,hw4⟩:=nm (w3.alloc (.cells (madeCells #[B C 0,B C 0,B C 0,B C 0,B C 0,B C 0,B C 0] (n*7)) 67));obtain⟨bm,hbm⟩:=nm w4.heap.size;obtain⟨w5,hw5⟩:=nm (w4.alloc (.map #[] 0));have s4:w4.heap.size=w3.heap.size+1:=by rw[hw4];simp
 have e4:w3.heap.size+1=bm:=by omega
 have HR5:Bx (kz (af s L) w3 w5 bs bm n 0 (List.replicate n Iv) (fun _=>[])):=⟨by
  have x1:ab w3 w4:=by rw[hw4];exact (zE _).alloc _
  have x2:ab w4 w5:=by rw[hw5];exact (zE _).alloc _
  have o1:=ah.made (e:=67) (R:=cU w3) w3 Iv.cells Iv n (by decide) (by omega) ⟨rfl,Ix⟩;refine⟨x1.trans x2,?_,?_,fun j x hj=>by omega,fun c g=>rfl,by omega,by omega⟩
  ·rw[hbs];rw[hw4]at x2;exact o1.ext x2
  ·rw[hbm,hw5];exact fp.made _ _ _ _⟩
 rw[e4,<-hbs,<-hw4,<-hw5];clear hw4 hw5 hbs hbm s4 e4;go_wp2_with fail;go_loopw [41] (fun s41 wr=>∃(i:Nat) (ss:List dF) (G:Value->List Nat),s41=B C i/\i<=n/\Bx (kz (af s L) w3 wr bs bm n i ss G)) (fun i _=>n-(intOf i).toNat)
 case atStart=>exact⟨0,_,_,rfl,by omega,HR5⟩
 case round =>
  obtain⟨i,ss,G,rfl,hi,HR⟩:=hrel;clear HR5;by_cases hin:i<n
  ·obtain⟨t,sr,q,kd,ct,ts,tq,lp,lc,lg,lv,str,ch,Au,mu,cu,HX,hcs,hI,hwf⟩:=au.read HC.out (XT.refl p w3) hin;have hcs2:=hcs.ext HR.out.x;rw[yV]at hcs2;obtain⟨c0,c1,c2,c3,c4,c5,c6,c7,c8,c9,c10,c11,c12⟩:=hcs2;have HI:Bx (ak p w3 (D Au mu cu) ch):=⟨hI⟩
   have HRX:=zZ (lL (s:=s) HX.out);have HWF:=zZ (DM (s:=s) (nk HC.out) hwf);have HSW:Bx (bN.wf ⟨t,sr,q⟩):=⟨hwf.1⟩
   clear hcs hI hwf;go_upto_region 12 with (fail)
   obtain⟨g,hg⟩:=nm wr.heap.size;obtain⟨w6,hw6⟩:=nm ((wr.alloc (.cells #[B C t,B C sr,B C q,B C kd,.string (ba str),B C ct,D Au mu cu,B C ts,B C tq,B C lp,B C lc,B C lg,B C lv] 47)):World);have hX6:ab wr w6:=by rw[hw6];exact (zE _).alloc _
   have HR6:=zZ (HR.out.ext hX6);have hB6:Bk w6 g #[B C t,B C sr,B C q,B C kd,.string (ba str),B C ct,D Au mu cu,B C ts,B C tq,B C lp,B C lc,B C lg,B C lv] 47:=by rw[hw6,hg];exact Bk.new _ _ _
   have hgl:bm<g:=by rw[hg];exact HR.out.lt
   rw[<-hw6,<-hg];clear hw6 hg HR c0 c1 c2 c3 c4 c5 c6 c7 c8 c9 c10 c11 c12 hX6;obtain⟨y0,y1,y2,y3,y4,y5,y6,y7,y8,y9,y10,y11,y12⟩:=(hB6).p13 rfl;have HB6:=zZ hB6;clear hB6;by_cases hk1:kd=1;case neg =>
    have hkb:(kd != 1)=true:=by simp[hk1]
    have HR7:=zZ (HR6.out.skip HRX.out (by rw[ff];exact hk1) (by rw[sU hk1]));replace hk1:=zZ hk1;clear y0 y1 y2 y4 y5 y6 y7 y8 y9 y10 y11 y12;go_wp2_with fail;go_roundw
    case rel=>exact⟨i+1,_,_,by go_num,by omega,⟨HR7.out⟩⟩
    case measure=>simp[intOf];omega
   subst hk1;go_upto_region 13 with (fail)
   go_wp2_with fail;refine (ui t sr q 1 ct ts tq lp lc lg lv _ Au mu cu _).mono ?_;rintro e w7 ⟨rfl,hx7⟩;go_wp2_with fail;refine (mK _ L sr q _ (HT.out.ext ((HF3.out.xt.trans HR6.out.x).trans hx7)) (HC.out.ext (bR.stab p) (HR6.out.x.trans hx7))).mono ?_;rintro e w8 ⟨ep,ec,eg,ev,st,rfl,hlab,hx8⟩;have HR8:=zZ ((HR6.out.ext hx7).ext hx8);have HB8:=zZ ((HB6.out.ext hx7).ext hx8);have HSV:=zZ (gj (s:=s) (l:=L) (c:=⟨⟨t,sr,q⟩,1,str,ct,ch,⟨ts,tq⟩,⟨lp,lc,lg,lv⟩⟩) rfl hlab);have HLW:=zZ (jo (nk HC.out) hlab);have hst:=ku L (aj.id ⟨⟨t,sr,q⟩,1,str,ct,ch,⟨ts,tq⟩,⟨lp,lc,lg,lv⟩⟩);rw[show aj.id ⟨⟨t,sr,q⟩,1,str,ct,ch,⟨ts,tq⟩,⟨lp,lc,lg,lv⟩⟩=⟨sr,q⟩ from rfl,hlab]at hst;simp only at hst;have HST:=zZ hst;clear hx7 hx8 hlab hst HR6 HB6 y0 y1 y2 y3 y4 y5 y6 y7 y8 y9 y10 y11 y12;go_upto_region 14 with (fail)
   obtain⟨h8,hh8⟩:=nm w8.heap.size;obtain⟨w9,hw9⟩:=nm ((w8.alloc (.cells #[B C ep,B C ec,B C eg,B C ev] 45)):World);have hX9:ab w8 w9:=by rw[hw9];exact (zE _).alloc _
   have HR9:=zZ (HR8.out.ext hX9);have HB9:=zZ (HB8.out.ext hX9);have HL9:Bx (Bk w9 h8 #[B C ep,B C ec,B C eg,B C ev] 45):=⟨by rw[hw9,hh8];exact Bk.new _ _ _⟩
   have hhl:bm<h8:=by rw[hh8];exact HR8.out.lt
   rw[<-hw9,<-hh8];clear hw9 hh8 hX9 HR8 HB8;obtain⟨fb,hfb⟩:=nm (bH s ⟨ep,ec,eg,ev⟩ ch);have HFB:=zZ hfb;simp only[<-hfb]at HSV;clear hfb;go_cut [65] (fun s65 wx=>∃bb:Bool,s65=.bool bb/\Hid (bb=(decide (st=0)&&!fb))/\ab w9 wx)
   case first =>
    by_cases h0:st=0
    ·have h0b:(st==0)=true:=by simp[h0]
     have HD:=zZ (show (!fb)=(decide (st=0)&&!fb) by rw[decide_eq_true h0];rfl);replace h0:=zZ h0;obtain⟨z0,z1,z2,z3⟩:=((HF3.out.ext HR9.out.x).at_ 0 rfl).p4 rfl;obtain⟨e0,e1,e2,e3⟩:=(HL9.out).p4 rfl;have y6:=HB9.out.c 6 rfl;go_wp2_with fail;refine (qE _ _ s ep ec eg ev ch _ (p:=p) (q:=p) (zB hp (HF3.out.xt.trans HR9.out.x).size) (HS.out.ext (HF3.out.xt.trans HR9.out.x)) (HI.out.ext HR9.out.x) HLW.out HOK.out).mono ?_;rintro e w10 ⟨rfl,hx10⟩;rw[<-HFB.out];go_wp2_with fail;go_meet
     exact⟨_,rfl,HD.out,hx10⟩
    ·have h0b:(st==0)=false:=by simp[h0]
     have HD:=zZ (show false=(decide (st=0)&&!fb) by rw[decide_eq_false h0];rfl);replace h0:=zZ h0;go_wp2_with fail;go_meet
     exact⟨_,rfl,HD.out,zE _⟩
   case rest =>
   obtain⟨bb,rfl,hbb,hxc⟩:=hcut;have HRc:=zZ (HR9.out.ext hxc);have HBc:=zZ (HB9.out.ext hxc);have HLc:=zZ (HL9.out.ext hxc);clear HR9 HB9 HL9 hxc HFB;obtain⟨sx,hsx⟩:=nm (if st=0 then (if fb=true then 0 else 5) else st:Int);have HX1:Bx (aM s L ⟨⟨t,sr,q⟩,1,str,ct,ch,⟨ts,tq⟩,⟨lp,lc,lg,lv⟩⟩=⟨⟨⟨t,sr,q⟩,1,str,ct,ch,⟨ts,tq⟩,⟨lp,lc,lg,lv⟩⟩,⟨ep,ec,eg,ev⟩,sx,decide (sx=0)⟩):=⟨by
    rw[HSV.out,hsx];by_cases h0:st=0
    ·cases fb<;>simp[h0]
    ·simp[h0]⟩
   have HB1:Bx ((bb=true->sx=5)/\(bb=false->sx=st)):=⟨by
    have:=hbb.out;rw[this,hsx];by_cases h0:st=0
    ·cases fb<;>simp[h0]
    ·simp[h0]⟩
   clear hsx hbb HSV HST;go_upto_if 65 with (fail)
   go_cut [14] (fun s14 wx=>s14=B C sx/\wx=wc)
   case first =>
    cases bb with
    |true=>go_wp2_with fail;go_meet;exact⟨by rw[HB1.out.1 (by simp)],rfl⟩
    |false=>go_wp2_with fail;go_meet;exact⟨by rw[HB1.out.2 (by simp)],rfl⟩
   case rest =>
   obtain⟨rfl,rfl⟩:=hcut;clear HB1;have HRX2:Bx ((af s L)[i]?=some ⟨⟨⟨t,sr,q⟩,1,str,ct,ch,⟨ts,tq⟩,⟨lp,lc,lg,lv⟩⟩,⟨ep,ec,eg,ev⟩,sx,decide (sx=0)⟩):=⟨by rw[HRX.out,HX1.out]⟩
   have HWF2:=zZ HWF.out;rw[HX1.out]at HWF2;clear HRX HX1 HWF;obtain⟨i0,hi0,hz0,hz1,hz2⟩:=info_parts Tryz.infoI;go_upto_if 67 with (fail)
   go_cut [] (fun wx=>∃G',Bx (ab w3 wx/\ah bs 67 7 (cU w3) wx (D (some ⟨bs,0,none⟩) n n) ss/\Bk wx g #[B C t,B C sr,B C q,B C 1,.string (ba str),B C ct,D Au mu cu,B C ts,B C tq,B C lp,B C lc,B C lg,B C lv] 47/\Bk wx h8 #[B C ep,B C ec,B C eg,B C ev] 45/\fp prog 113 3 wx bm (bm+1) G'/\∀c g,G' (r9 c g)=ed (af s L) (i+1) c g))
   case first =>
    by_cases hs0:sx=0
    ·have hsb:(sx==0)=true:=by simp[hs0]
     have HF1:Bx ((af s L)[i]?=some ⟨⟨⟨t,sr,q⟩,1,str,ct,ch,⟨ts,tq⟩,⟨lp,lc,lg,lv⟩⟩,⟨ep,ec,eg,ev⟩,sx,true⟩):=⟨by rw[HRX2.out,decide_eq_true hs0]⟩
     replace hs0:=zZ hs0;obtain⟨e0,e1,e2,e3⟩:=(HLc.out).p4 rfl;go_upto_region 18 with (fail)
     obtain⟨gp,hgp⟩:=nm wc.heap.size;obtain⟨w10,hw10⟩:=nm ((wc.alloc (.cells #[B C ec,B C eg] 113)):World);have hX10:ab wc w10:=by rw[hw10];exact (zE _).alloc _
     have hP:Bk w10 gp #[B C ec,B C eg] 113:=by rw[hw10,hgp];exact Bk.new _ _ _
     rw[<-hw10,<-hgp];clear hw10 hgp;have p0:=hP.c 0 rfl;have p1:=hP.c 1 rfl;have x11:ab wc (w10.alloc (.cells #[B C (i:Int)] 3)):=hX10.trans ((zE _).alloc _);obtain⟨kl,hkl⟩:=sM HLW.out.2.1 HLW.out.2.2.1;simp only at hkl;obtain⟨w12,v12,stm,es,clk,hme,hg12,hlt,hb12,hE,x,hx,hxk,rfl,rfl⟩:=(HRc.out.gr.ext x11).entry (E:=22) (t:=111) pm underlying111 (fun w=>zeroValue22 w) hkl;have hrow:=hE.row x hx;rw[hxk]at hrow;have hGL:(G (r9 ec eg)).length<=300:=by rw[HRc.out.go];have:=G8 (af s L) i ec eg;omega
     have hcell:w12.cell? ⟨w10.heap.size,0,none⟩=some (B C (i:Int)):=by have h1:(w10.alloc (.cells #[B C (i:Int)] 3)).cell? ⟨w10.heap.size,0,none⟩=some (B C (i:Int)):=(Bk.new w10 #[B C (i:Int)] 3).c 0 rfl;have hb1:bm<w10.heap.size:=zB HRc.out.lt hX10.size;rw[wG (w:=w10.alloc (.cells #[B C (i:Int)] 3)) (hg12.block _ (bK h1) (fun e=>by injection e with e;simp only at e;omega))];exact h1
     have hb12s:bm+1<=w12.heap.size:=al hb12;have HALL:Bx (ab wc (w10.alloc (.cells #[B C (i:Int)] 3))/\(w10.alloc (.cells #[B C (i:Int)] 3)).grownBy w12 (some bm)):=⟨⟨x11,hg12⟩⟩
     unfold r9 at hme;clear e0 e1 e2 e3 hP x11 hX10 hg12 hkl;go_wp2_with (at_builtin;refine wpList_append_own_at _ rfl (.tmp 75) (.tmp 77) 22 rfl (bm+1) 3 i0 _ 1 8 underlying22 hi0 hz0 hz1 hz2 rfl (by decide) x.val _ _ rfl hrow ⟨w10.heap.size,0,none⟩ 1 1 [B C (i:Int)] rfl rfl (by intro j u hj;match j,hj with|0,hj=>(simp at hj;subst hj;rw[fa];exact hcell)|j+1,hj=>simp at hj) (by intro u hu;simp at hu;subst hu;rfl) (by unfold maxLen;omega) (by omega) hb12s ?_;intro v13 w13 hown13 hg13 hnil13 hat13;obtain⟨w14,hst14,hg14,hG14⟩:=pS.back (t:=111) (js:=G (r9 ec eg)++[i]) hlt hb12 hE pm hx hg13 (by rw[yU,yG];exact hown13) (hat13.imp id (fun h=>⟨_,h,zX _⟩)));have HE:Bx (∃G',ab w3 w14/\ah bs 67 7 (cU w3) w14 (D (some ⟨bs,0,none⟩) n n) ss/\Bk w14 g #[B C t,B C sr,B C q,B C 1,.string (ba str),B C ct,D Au mu cu,B C ts,B C tq,B C lp,B C lc,B C lg,B C lv] 47/\Bk w14 h8 #[B C ep,B C ec,B C eg,B C ev] 45/\fp prog 113 3 w14 bm (bm+1) G'/\∀c g,G' (r9 c g)=ed (af s L) (i+1) c g):=⟨by
      have h:=HRc.out;have h1:=h.g1;have h2:=h.g2;have hB:=(HBc.out.ext HALL.out.1).grown HALL.out.2 (fun e=>by injection e with e;omega);have hL:=(HLc.out.ext HALL.out.1).grown HALL.out.2 (fun e=>by injection e with e;omega);refine⟨_,((((h.x.trans HALL.out.1).grown HALL.out.2 (fun kk e=>by injection e with e;omega)).grown hg13 (fun kk e=>by have:=(hE.lt hx e).1;omega)).grown hg14 (fun kk e=>by injection e with e;omega)),(((h.st.ext HALL.out.1).grown HALL.out.2 (.inr (fun e=>by simp only[Value.ownBlock]at e;injection e with e;omega))).grown hg13 (.inr (fun e=>by simp only[Value.ownBlock]at e;have:=(hE.lt hx e.symm).1;omega))).grown hg14 (.inr (fun e=>by simp only[Value.ownBlock]at e;injection e with e;omega)),
       (hB.grown hg13 (tX hrow hB (by decide))).grown hg14 (fun e=>by injection e with e;omega),(hL.grown hg13 (tX hrow hL (by decide))).grown hg14 (fun e=>by injection e with e;omega),hG14,?_⟩
      rw[hxk];exact JJ HF1.out rfl h.go⟩
     clear hst14 hG14 hat13 hnil13 hg13 hg14 hown13 hrow hme hcell hE hb12 p0 p1;go_meet
     obtain⟨G',h⟩:=HE.out;exact⟨G',⟨h⟩⟩
    ·have hsb:(sx==0)=false:=by simp[hs0]
     have HF1:Bx ((af s L)[i]?=some ⟨⟨⟨t,sr,q⟩,1,str,ct,ch,⟨ts,tq⟩,⟨lp,lc,lg,lv⟩⟩,⟨ep,ec,eg,ev⟩,sx,false⟩):=⟨by rw[HRX2.out,decide_eq_false hs0]⟩
     replace hs0:=zZ hs0;go_wp2_with fail;go_meet
     exact⟨G,⟨⟨HRc.out.x,HRc.out.st,HBc.out,HLc.out,HRc.out.gr,GJ HF1.out rfl HRc.out.go⟩⟩⟩
   case rest =>
   obtain⟨G',HM⟩:=hcut;have HSK:=zZ HRc.out.sk;have HG1:=zZ HRc.out.g1;have HG2:=zZ HRc.out.g2;clear HRc HBc HLc;obtain⟨y0,y1,y2,y3,y4,y5,y6,y7,y8,y9,y10,y11,y12⟩:=(HM.out.2.2.1).p13 rfl;obtain⟨e0,e1,e2,e3⟩:=(HM.out.2.2.2.1).p4 rfl;go_upto_region 19 with (fail)
   refine zQ 8 fun wd kS=>?_;refine zS 5 [(0,81),(1,82),(2,83),(4,85),(5,86)] kS ?_;iterate 5 refine zT ?_ (y:=by intro wk hk;obtain⟨_,_,_,_,_,_,_,_⟩:=zkc8 hk y0 y1 y2 y3 y4 y5 y6 y7;obtain⟨_,_,_,_,_,_,_,_⟩:=zkc8 hk y8 y9 y10 y11 y12 e0 e1 e2;have:=hk.cell e3;go_simp;try with_reducible rfl)
   refine zN (zO 3 (fun K hK=>?_));go_simp;refine (ui t sr q 1 ct ts tq lp lc lg lv _ Au mu cu _).mono ?_;rintro e w7 ⟨rfl,hx7⟩;have kS2:ab wc w7:=kS.trans hx7;clear hx7;refine hK.out _ _ (fun _=>kS2) ?_;clear hK K;try simp only[kA]
   refine zS 2 [(6,87),(7,88)] kS2 ?_;iterate 2 refine zT ?_ (y:=by intro wk hk;obtain⟨_,_,_,_,_,_,_,_⟩:=zkc8 hk y0 y1 y2 y3 y4 y5 y6 y7;obtain⟨_,_,_,_,_,_,_,_⟩:=zkc8 hk y8 y9 y10 y11 y12 e0 e1 e2;have:=hk.cell e3;go_simp;try with_reducible rfl)
   refine zN (zO 8 (fun K hK=>?_));obtain⟨cs0,x00,-,⟨rfl,-⟩,-,hcl,hfz⟩:=(HM.out.2.1.ext kS2).cellsAt hin;have z0:=hcl 0 _ rfl;have z1:=hcl 1 _ rfl;have z2:=hcl 2 _ rfl;have z3:=hcl 3 _ rfl;have z4:=hcl 4 _ rfl;have z5:=hcl 5 _ rfl;have z6:=hcl 6 _ rfl;rw[yQ]at z0;have f0:=hfz (i*7);have f1:=hfz (i*7+1);have f2:=hfz (i*7+2);have f3:=hfz (i*7+3);have f4:=hfz (i*7+4);have f5:=hfz (i*7+5);have f6:=hfz (i*7+6);clear hcl hfz;go_simp;have hS8:=He (HM.out.1.trans kS2) (HM.out.2.1.ext kS2) HSK.out HG1.out HG2.out hin HRX2.out (HM.out.2.2.2.2.1.ext kS2) HM.out.2.2.2.2.2 HWF2.out;obtain⟨w8,hw8⟩:=nm (be w7 bs (i*7) (dF.cells (lQ ⟨⟨⟨t,sr,q⟩,1,str,ct,ch,⟨ts,tq⟩,⟨lp,lc,lg,lv⟩⟩,⟨ep,ec,eg,ev⟩,sx,decide (sx=0)⟩)));rw[<-hw8]at hS8;simp only[lQ,dF.cells,aj.id,be,wC,Nat.reduceAdd]at hw8;rw[<-hw8];have HS8:=zZ hS8;clear hw8 hS8 z0 z1 z2 z3 z4 z5 z6 f0 f1 f2 f3 f4 f5 f6;refine hK.out _ _ (fun h=>absurd rfl h) ?_;clear hK K;refine zD ?_;clear HM y0 y1 y2 y3 y4 y5 y6 y7 y8 y9 y10 y11 y12 e0 e1 e2 e3;go_wp2_with fail;go_roundw
   case rel=>exact⟨i+1,_,_,by go_num,by omega,⟨HS8.out⟩⟩
   case measure=>simp[intOf];omega
  ·obtain rfl:n=i:=by omega
   clear HT HS HN;obtain⟨wa,rfl⟩:=nm wr;obtain⟨iC,hiC,hC0,hC1,hC2⟩:=info_parts Tryz.infoSst;obtain⟨iP,hiP,hP0,hP1,hP2⟩:=info_parts Tryz.infoPg;have HNL2:Hid (n=L.length):=HNL.out;go_upto_region 22 with (fail)
   obtain⟨gI,hgI⟩:=nm wa.heap.size;obtain⟨w6,hw6⟩:=nm ((wa.alloc (.cells #[D none 0 0,D none 0 0] 59)):World);have HJ6:Bx (dy wa w6 gI (gI+1) (D none 0 0) (D none 0 0) (aZ (af s L) 0) (bW (af s L) 0)):=⟨by rw[hw6,hgI];exact dy.start _⟩
   rw[<-hw6,<-hgI];clear hw6 hgI;go_wp2_with fail;go_loopw [92] (fun s92 wr=>∃(k:Nat) (vS vG:Value),s92=B C k/\k<=n/\Bx (dy wa wr gI (gI+1) vS vG (aZ (af s L) k) (bW (af s L) k))) (fun i _=>n-(intOf i).toNat)
   case atStart=>exact⟨0,_,_,rfl,by omega,HJ6⟩
   case round =>
    obtain⟨k,vS,vG,rfl,hk,HJ⟩:=hrel;clear HJ6;by_cases hkn:k<n
    ·obtain⟨t,sr,q,kd,ct,ts,tq,lp,lc,lg,lv,str,ch,Au,mu,cu,HX,hcs,hI,hwf⟩:=au.read HC.out (XT.refl p w3) hkn;have hcs2:=hcs.ext (HR.out.x.trans HJ.out.x);rw[yV]at hcs2;obtain⟨c0,c1,c2,c3,c4,c5,c6,c7,c8,c9,c10,c11,c12⟩:=hcs2;have HI:Bx (ak p w3 (D Au mu cu) ch):=⟨hI⟩
     have HRX:=zZ (lL (s:=s) HX.out);have HCW:=zZ hwf;have HWF:=zZ (DM (s:=s) (nk HC.out) hwf);clear hcs hI hwf;go_upto_region 25 with (fail)
     obtain⟨g,hg⟩:=nm wr.heap.size;obtain⟨w7,hw7⟩:=nm ((wr.alloc (.cells #[B C t,B C sr,B C q,B C kd,.string (ba str),B C ct,D Au mu cu,B C ts,B C tq,B C lp,B C lc,B C lg,B C lv] 47)):World);have HF7:Bx (aA wr w7 [(g,#[B C t,B C sr,B C q,B C kd,.string (ba str),B C ct,D Au mu cu,B C ts,B C tq,B C lp,B C lc,B C lg,B C lv],47)]):=⟨by rw[hw7,hg];exact (aA.start wr).push _ _ rfl⟩
     rw[<-hw7,<-hg];clear hw7 hg c0 c1 c2 c3 c4 c5 c6 c7 c8 c9 c10 c11 c12;have y3:=(HF7.out.at_ 0 rfl).c 3 rfl;by_cases hk1:kd=1;case neg =>
      have hkb:(kd != 1)=true:=by simp[hk1]
      have HJ8:Bx (dy wa w7 gI (gI+1) vS vG (aZ (af s L) (k+1)) (bW (af s L) (k+1))):=⟨by rw[Bb HRX.out (by rw[ff];exact hk1),kG HRX.out (fun h=>hk1 (by have:=h.1;rwa [ff]at this))];exact HJ.out.ext HF7.out.xt⟩
      replace hk1:=zZ hk1;go_wp2_with fail;go_roundw
      case rel=>exact⟨k+1,_,_,by go_num,by omega,HJ8⟩
      case measure=>simp[intOf];omega
     subst hk1;obtain⟨ep,ec,eg,ev,sx,hsc⟩:=Gq s L (c:=⟨⟨t,sr,q⟩,1,str,ct,ch,⟨ts,tq⟩,⟨lp,lc,lg,lv⟩⟩) rfl;have hsk:=HR.out.sk k _ hkn HRX.out (by rw[ff]);have hkn2:=hkn;obtain⟨cs0,x00,-,⟨hcs0,-⟩,hx0,hcl,-⟩:=(HR.out.st.ext (HJ.out.x.trans HF7.out.xt)).cellsAt hkn;have hxe:x00=lQ (aM s L ⟨⟨t,sr,q⟩,1,str,ct,ch,⟨ts,tq⟩,⟨lp,lc,lg,lv⟩⟩):=by have:=hx0.out;rw[hsk]at this;injection this with this;exact this.symm
     subst hxe;rw[hsc]at hcs0;subst hcs0;have z0:w7.cell? ⟨bs,k*7+0,none⟩=some (B C sr):=hcl 0 _ rfl;have z1:w7.cell? ⟨bs,k*7+1,none⟩=some (B C q):=hcl 1 _ rfl;have z2:w7.cell? ⟨bs,k*7+2,none⟩=some (B C sx):=hcl 2 _ rfl;have z3:w7.cell? ⟨bs,k*7+3,none⟩=some (B C ep):=hcl 3 _ rfl;have z4:w7.cell? ⟨bs,k*7+4,none⟩=some (B C ec):=hcl 4 _ rfl;have z5:w7.cell? ⟨bs,k*7+5,none⟩=some (B C eg):=hcl 5 _ rfl;have z6:w7.cell? ⟨bs,k*7+6,none⟩=some (B C ev):=hcl 6 _ rfl;rw[yQ]at z0;have HRX2:Bx ((af s L)[k]?=some ⟨⟨⟨t,sr,q⟩,1,str,ct,ch,⟨ts,tq⟩,⟨lp,lc,lg,lv⟩⟩,⟨ep,ec,eg,ev⟩,sx,decide (sx=0)⟩):=⟨by rw[HRX.out,hsc]⟩
     have HWF2:=zZ HWF.out;rw[hsc]at HWF2;clear HRX HWF hsc hsk hx0 hcl;go_upto_region 27 with (fail)
     obtain⟨hb,hhb⟩:=nm w7.heap.size;obtain⟨w8,hw8⟩:=nm ((w7.alloc (.cells #[B C sr,B C q,B C sx,B C ep,B C ec,B C eg,B C ev] 67)):World);have HF8:Bx (aA wr w8 [(g,#[B C t,B C sr,B C q,B C 1,.string (ba str),B C ct,D Au mu cu,B C ts,B C tq,B C lp,B C lc,B C lg,B C lv],47),(hb,#[B C sr,B C q,B C sx,B C ep,B C ec,B C eg,B C ev],67)]):=⟨by rw[hw8,hhb];exact HF7.out.push _ _ rfl⟩
     rw[<-hw8,<-hhb];clear hw8 hhb HF7 y3 z0 z1 z2 z3 z4 z5 z6;obtain⟨sv,hsv⟩:=nm (cR (af s L) k ⟨⟨⟨t,sr,q⟩,1,str,ct,ch,⟨ts,tq⟩,⟨lp,lc,lg,lv⟩⟩,⟨ep,ec,eg,ev⟩,sx,decide (sx=0)⟩);have HSV:=zZ hsv;clear hsv;obtain⟨e0,e1,e2,e3,e4,e5,e6⟩:=(HF8.out.at_ 1 rfl).p7 rfl;go_upto_if 106 with (fail)
     go_cut [] (fun wx=>Bx (aA wr wx [(g,#[B C t,B C sr,B C q,B C 1,.string (ba str),B C ct,D Au mu cu,B C ts,B C tq,B C lp,B C lc,B C lg,B C lv],47),(hb,#[B C sr,B C q,B C sv,B C ep,B C ec,B C eg,B C ev],67)]))
     case first =>
      by_cases hs0:sx=0
      ·have hsb:(sx==0)=true:=by simp[hs0]
       obtain⟨kl,hkl⟩:=sM HWF2.out.2.2.2.1 HWF2.out.2.2.2.2.1;simp only[lQ]at hkl;obtain⟨vg,hlk,hrow⟩:=(HR.out.gr.ext (HJ.out.x.trans HF8.out.xt)).look (E:=22) (t:=111) pm underlying111 (zeroValue22 _) hkl;obtain⟨js,j0,y0,hIj,hj0,hy0,hin,hst⟩:=Ek (p:=p) HNL2.out hn3 HRX2.out (decide_eq_true hs0) HR.out.go hrow (by have:=HR.out.g1;have:=HR.out.g2;have:=HF3.out.xt.size;omega);rw[<-HSV.out]at hst;unfold r9 at hlk;obtain⟨Ag,mg,cg,rfl,-⟩:=hIj.open_;have HIJ:=zZ hIj;have HJ0:=zZ hj0;have HY0:=zZ hy0;have HIN:=zZ hin;have HST:=zZ hst;clear hIj hj0 hy0 hin hst hrow hkl;replace hs0:=zZ hs0;go_wp2_with fail;refine (uc _ _ L js k j0 y0 _ (HC.out.ext (bR.stab p) ((HR.out.x.trans HJ.out.x).trans HF8.out.xt)) HIJ.out HJ0.out HY0.out HIN.out).mono ?_;rintro e w9 ⟨rfl,hx9⟩;have HF9:=zZ (HF8.out.ext hx9);rw[HST.out];clear hx9 hlk e0 e1 e2 e3 e4 e5 e6;have e2:=(HF9.out.at_ 1 rfl).c 2 rfl;have f2:=(HF9.out.at_ 1 rfl).froz;go_wp2_with fail;have hfin:=HF9.out.set 1 rfl 2 (B C sv);go_meet
       exact⟨hfin⟩
      ·have hsb:(sx==0)=false:=by simp[hs0]
       have he:Hid (sv=sx):=by
        show sv=sx
        rw[HSV.out];unfold cR;simp[hs0]
       replace hs0:=zZ hs0;go_wp2_with fail;go_meet
       rw[he.out];exact HF8
     case rest =>
     clear HF8 e0 e1 e2 e3 e4 e5 e6;have HF9:=hcut;clear hcut;have HJ9:=zZ (HJ.out.ext HF9.out.xt);have HW9:=zZ ((HR.out.x.trans HJ.out.x).trans HF9.out.xt);clear HJ;obtain⟨AS,cS,hvS⟩:=HJ9.out.st.form;obtain⟨AG,cG,hvG⟩:=HJ9.out.pg.form;obtain⟨nS,hnS⟩:=nm ((aZ (af s L) k).length);obtain⟨nG,hnG⟩:=nm ((bW (af s L) k).length);rw[<-hnS]at hvS;rw[<-hnG]at hvG;subst hvS;subst hvG;have hnS1:nS<=300:=by have:=uV (ry (af s L)) (List.range k);rw[wQ]at this;unfold aZ at hnS;omega
     have hnG1:nG<=300:=by have:=uV (pg1 (af s L)) (List.range k);rw[wQ]at this;unfold bW at hnG;omega
     have HNS:=zZ hnS;have HNG:=zZ hnG;clear hnS hnG;obtain⟨e0,e1,e2,e3,e4,e5,e6⟩:=(HF9.out.at_ 1 rfl).p7 rfl;go_upto_if 122 with (fail)
     go_cut [] (fun wz=>∃vG',Bx (dy wa wz gI (gI+1) (D AS nS cS) vG' (aZ (af s L) k) (bW (af s L) (k+1))/\Bk wz hb #[B C sr,B C q,B C sv,B C ep,B C ec,B C eg,B C ev] 67))
     case first =>
      by_cases h1:sv=1
      ·have h1b:(sv==1)=true:=by simp[h1]
       have HPG:=zZ (ws HRX2.out rfl (by rw[<-HSV.out];exact h1));replace h1:=zZ h1;clear e0 e1 e2 e3 e4 e5 e6;go_upto_region 30 with (fail)
       refine zR 19 (fun w'=>Bk w' gI #[D AS nS cS,D AG nG cG] 59/\Bk w' hb #[B C sr,B C q,B C sv,B C ep,B C ec,B C eg,B C ev] 67/\Bk w' g #[B C t,B C sr,B C q,B C 1,.string (ba str),B C ct,D Au mu cu,B C ts,B C tq,B C lp,B C lc,B C lg,B C lv] 47) ?_;have kS:(fun w'=>Bk w' gI #[D AS nS cS,D AG nG cG] 59/\Bk w' hb #[B C sr,B C q,B C sv,B C ep,B C ec,B C eg,B C ev] 67/\Bk w' g #[B C t,B C sr,B C q,B C 1,.string (ba str),B C ct,D Au mu cu,B C ts,B C tq,B C lp,B C lc,B C lg,B C lv] 47) wc.drew:=⟨HJ9.out.it.ext ((zE _).drew),(HF9.out.at_ 1 rfl).ext ((zE _).drew),(HF9.out.at_ 0 rfl).ext ((zE _).drew)⟩
       have kD:ab wc wc.drew:=(zE _).drew;obtain⟨wd,hwd⟩:=nm (wc.drew:World);rw[<-hwd]at kS kD⊢;clear hwd;refine zS 14 [(0,123),(1,124),(2,125),(3,126),(4,127),(5,128),(6,129),(7,130),(8,131),(9,132),(10,133),(11,134),(13,136),(14,137)] kS ?_;iterate 14 refine zT ?_ (y:=by intro wk hk;(have j1:=hk.1.c 1 rfl);(have h0:=hk.2.1.c 0 rfl);(have h1:=hk.2.1.c 1 rfl);(have h4:=hk.2.1.c 4 rfl);(have h5:=hk.2.1.c 5 rfl);(have y5:=hk.2.2.c 5 rfl);(have y6:=hk.2.2.c 6 rfl);go_simp;try with_reducible rfl)
       refine zN (zO 12 (fun K hK=>?_));go_simp;have HJ10:=zZ (HJ9.out.ext kD);refine (jF _ ch _ (HI.out.ext (HW9.out.trans kD)) HCW.out.2.2.2.2.2.2).mono ?_;rintro e w10 ⟨v10,rfl,hO10,hx10⟩;have hO:=gM hO10 (base':=gI+1) (by have:=HJ10.out.g3;omega);obtain⟨A0,c0,rfl⟩:=ig hO;have HJ11:=zZ (HJ10.out.ext hx10);have HO:=zZ hO;have kS2:=yJ (kS.1.ext hx10) (yJ (kS.2.1.ext hx10) (kS.2.2.ext hx10));clear hO10 hx10 hO HJ10;refine hK.out _ _ (fun _=>kS2) ?_;clear hK K;try simp only[kA]
       refine zO 15 (fun K hK=>?_);go_simp;refine hK.out _ _ (fun _=>kS2) ?_;clear hK K;try simp only[kA]
       refine zO 16 (fun K hK=>?_);go_simp;obtain⟨gp,hgp⟩:=nm w10.heap.size;obtain⟨w11,hw11⟩:=nm ((w10.alloc (.cells #[B C ec,B C eg,B C ct,D A0 ch.length c0,B C sr,B C q] 72)):World);have hx11:ab w10 w11:=by rw[hw11];exact (zE _).alloc _
       have B11:Bx (Bk w11 gp #[B C ec,B C eg,B C ct,D A0 ch.length c0,B C sr,B C q] 72):=⟨by rw[hw11,hgp];exact Bk.new _ _ _⟩
       have HJ12:=zZ (HJ11.out.ext hx11);have HO2:=zZ (ao HO.out hx11);have kS3:=yJ (kS2.1.ext hx11) (yJ (kS2.2.1.ext hx11) (kS2.2.2.ext hx11));rw[<-hw11,<-hgp];clear hw11 hgp hx11 HJ11 HO;refine hK.out _ _ (fun _=>kS3) ?_;clear hK K;try simp only[kA]
       refine zO 17 (fun K hK=>?_);refine CM (by rfl) _ _ _ (by rfl) (gI+1) 72 iP _ 6 64 underlying57 hiP hP0 hP1 hP2 rfl (by omega) (oU (gI+1) w11) AG nG cG (bW (af s L) k) (by rfl) HNG.out.symm HJ12.out.pg gp [B C ec,B C eg,B C ct,D A0 ch.length c0,B C sr,B C q] (Gs ⟨⟨⟨t,sr,q⟩,1,str,ct,ch,⟨ts,tq⟩,⟨lp,lc,lg,lv⟩⟩,⟨ep,ec,eg,ev⟩,sx,decide (sx=0)⟩) (by rfl) (World.news_of_block B11.out) rfl (by simp[Value.oneCell']) ⟨A0,ch.length,c0,rfl,HO2.out,Ky HWF2.out HCW.out,fun _ h=>HI.out.mem h,HCW.out.2.2.2.2.2.2⟩ (by omega) (by omega) HJ12.out.g3 ?_;intro g7 c7 w12 hown7 hg7;obtain⟨hp1,hp2⟩:=HJ12.out.addG hown7 hg7;have hb2:=HJ12.out.keepG hg7 kS3.2.1 (by decide);have hb3:=HJ12.out.keepG hg7 kS3.2.2 (by decide);have HP2:=zZ hp2;have j1:=hp1.c 1 rfl;have f1:=hp1.froz 1;have kS4:=yJ hp1 (yJ hb2 hb3);clear hown7 hg7 hp2 hb3;change K (Act.put _ (some 140) _) w12;refine hK.out _ _ (fun _=>kS4) ?_;clear hK K;try simp only[kA]
       refine zO 18 (fun K hK=>?_);go_simp;refine hK.out _ _ (fun _=>kS4) ?_;clear hK K;try simp only[kA]
       refine zO 19 (fun K hK=>?_);go_simp;refine hK.out _ _ (fun h=>absurd rfl h) ?_;clear hK K;refine zD ?_;clear kS kS2 kS3;go_wp2_with fail;go_meet
       have hfin:=HP2.out;rw[<-HPG.out]at hfin;exact⟨_,⟨hfin,hb2.turn (rQ _ _ _ _) (gQ.blk hp1) (by decide)⟩⟩
      ·have h1b:(sv==1)=false:=by simp[h1]
       have HPG:=zZ (kG HRX2.out (fun h=>h1 (by rw[HSV.out];exact h.2)));replace h1:=zZ h1;go_wp2_with fail;go_meet
       exact⟨_,⟨by rw[HPG.out];exact HJ9.out,HF9.out.at_ 1 rfl⟩⟩
     case rest =>
     obtain⟨vG',HM⟩:=hcut;clear HJ9 HW9 HF9 e0 e1 e2 e3 e4 e5 e6;obtain⟨e0,e1,e2,e3,e4,e5,e6⟩:=(HM.out.2).p7 rfl;have j0:=HM.out.1.it.c 0 rfl;have HY:Bx (dF.wf ⟨⟨sr,q⟩,sv,⟨ep,ec,eg,ev⟩⟩/\lN (af s L) k ⟨⟨⟨t,sr,q⟩,1,str,ct,ch,⟨ts,tq⟩,⟨lp,lc,lg,lv⟩⟩,⟨ep,ec,eg,ev⟩,sx,decide (sx=0)⟩=⟨⟨sr,q⟩,sv,⟨ep,ec,eg,ev⟩⟩):=⟨by
      have h:=IW (R:=af s L) (k:=k) HWF2.out;have h2:lN (af s L) k ⟨⟨⟨t,sr,q⟩,1,str,ct,ch,⟨ts,tq⟩,⟨lp,lc,lg,lv⟩⟩,⟨ep,ec,eg,ev⟩,sx,decide (sx=0)⟩=⟨⟨sr,q⟩,sv,⟨ep,ec,eg,ev⟩⟩:=by unfold lN;rw[<-HSV.out];rfl
      rw[h2]at h;exact⟨h,h2⟩⟩
     go_upto_region 32 with (at_builtin;(refine dq _ rfl (.tmp 143) (.tmp 145) 56 rfl (gI+1) 67 iC _ 7 56 underlying56 hiC hC0 hC1 hC2 rfl (by omega) (cU wa) (D AS nS cS) (aZ (af s L) k) rfl (HM.out.1.st.ext ((zE _).alloc _)) _ #[B C sr,B C q,B C sv,B C ep,B C ec,B C eg,B C ev] _ (⟨⟨sr,q⟩,sv,⟨ep,ec,eg,ev⟩⟩:dF) rfl (heap_alloc_new _ _) rfl (by simp[Value.oneCell']) ⟨rfl,HY.out.1⟩ (by have:=HNS.out;omega) (by omega) (by have:=HM.out.1.g3;simp;omega) ?_;intro v5 w5 hown5 hg5;obtain⟨A5,c5,rfl⟩:=hown5.form;have hp:=(HM.out.1.ext ((zE _).alloc _)).addS hown5 hg5;have HP2:=zZ hp.2;have j0:=hp.1.c 0 rfl;have f0:=hp.1.froz 0;clear hown5 hg5 hp))
     go_wp2_with fail;go_roundw
     case rel=>exact⟨k+1,_,_,by go_num,by omega,⟨by rw[xh HRX2.out rfl,HY.out.2];have h:=HP2.out;simp only[yU,xQ,List.length_nil,yV]at h;exact h⟩⟩
     case measure=>simp[intOf];omega
    ·obtain rfl:n=k:=by omega
     obtain⟨AS,cS,hvS⟩:=HJ.out.st.form;obtain⟨AG,cG,hvG⟩:=HJ.out.pg.form;obtain⟨nS,hnS⟩:=nm ((aZ (af s L) n).length);obtain⟨nG,hnG⟩:=nm ((bW (af s L) n).length);rw[<-hnS]at hvS;rw[<-hnG]at hvG;subst hvS;subst hvG;have HLS:Bx ((aZ (af s L) n).length<=1000000/\(bW (af s L) n).length<=1000000):=⟨by have h1:=uV (ry (af s L)) (List.range n);have h2:=uV (pg1 (af s L)) (List.range n);rw[wQ]at h1 h2;exact⟨yR h1 (by omega),yR h2 (by omega)⟩⟩
     clear hnS hnG;have j0:=HJ.out.it.c 0 rfl;go_wp2_with fail;refine (Et (gI+1) _ _ _ wa HLS.out.1 HJ.out.st).mono ?_;rintro e w10 ⟨rfl,xs',hq1,hq2,hO,hg⟩;have HJ10:=zZ (HJ.out.srtS hO hg);have HQ:=zZ (yJ hq1 hq2);clear hO hg hq1 hq2 HJ j0;have j1:=HJ10.out.it.c 1 rfl;go_wp2_with fail;refine (Ef (gI+1) _ _ _ (oU (gI+1) w10) (fun _ _ h=>by obtain⟨A,n,c,h1,_⟩:=h;exact⟨A,n,c,h1⟩) HLS.out.2 HJ10.out.pg).mono ?_;rintro e w11 ⟨rfl,ys',hr1,hr2,hO,hg⟩;have HJ11:=zZ (HJ10.out.srtG hO hg);have HQ2:=zZ (yJ hr1 hr2);clear hO hg hr1 hr2 HJ10 j1;obtain⟨j0,j1⟩:=(HJ11.out.it).p2 rfl;have HF12:=zZ (HF3.out.ext (HR.out.x.trans HJ11.out.x));obtain⟨r0,r1⟩:=(HF12.out.at_ 1 rfl).p2 rfl;have f0:=(HF12.out.at_ 1 rfl).froz;have f1:=f0;go_wp2_with fail;have h9:=HF12.out.setAll 1 rfl [D AS nS cS,D AG nG cG] rfl;refine bodyPost_ret (v:=.tuple #[.agg #[D AS nS cS,D AG nG cG],B C 0]) (by simp[results,results32,go_sem,r0,r1]) rfl ⟨⟨_,by rw[HCK.out],?_⟩,h9.xt⟩;have hu:=pp (s:=s) (l:=L) (G5 HQ.out.1 (by rw[HNL2.out];exact Ed (by rw[HLL.out];exact sN)) HQ.out.2) (G5 HQ2.out.1 (by rw[HNL2.out];exact KM) HQ2.out.2) (by rw[<-HNL2.out];exact HQ.out.1) (by rw[<-HNL2.out];exact HQ2.out.1);unfold rM;rw[if_pos HCK.out,<-HLL.out,hu];have hpw:p<wa.heap.size:=by have:=HF3.out.xt.size;have:=HR.out.x.size;omega
     have hI:=HJ11.out.fin hpw (HF12.out.at_ 1 rfl) [D AS nS cS,D AG nG cG];exact hI
def hZ(w:World)(base:Nat)(v:Value)(l:List Int):Prop:=w.ownsRow base 3 1 v l.length (l.map (Value.int .i64))/\(∀x∈l,aU x)/\l.length<=1000000
section
variable {p base:Nat} {w w':World} {v:Value} {l:List Int}
theorem hZ.xt(h:hZ w base v l)(hx:XT p w w')(hp:p<base):hZ w' base v l:=⟨dD h.1 hx hp,h.2⟩
theorem hZ.ext(h:hZ w base v l)(hx:ab w w'):hZ w' base v l:=⟨ao h.1 hx,h.2⟩
theorem hZ.base_(h:hZ w base v l)(hb:b<=base):hZ w b v l:=⟨cd h.1 hb,h.2⟩
theorem hZ.isI(h:hZ w base v l)(hp:p<base):ak p w v l:=ak.of_own h.1 hp h.2.1 (by have:=h.2.2;omega)
theorem hZ.form(h:hZ w base v l):∃A c,v=D A l.length c:=by
 rcases h.1.2 with ⟨e,h0⟩|⟨g,cap,cur,e,_⟩
 ·exact⟨none,0,by rw[e,h0]⟩
 ·exact⟨_,_,e⟩
theorem hZ.apart{e size n:Nat}{z:Value}{xs:List Value}(h:hZ w base v l)(ho:w.ownsRow b e size z n xs)(he:3≠e)(hg:w.grownBy w' z.ownBlock):hZ w' base v l :=
 ⟨aJ h.1 hg fun k hk e'=>cA h.1 ho he k hk e',h.2⟩
theorem hZ.far{g:Nat}{cs:Array Value}{t:TypeId}(h:hZ w base v l)(hb:Bk w g cs t)(ht:t≠3)(i:Nat)(u:Value):hZ (w.setCell ⟨g,i,none⟩ u) base v l :=
 ⟨aN (a:=⟨g,i,none⟩) h.1 (aG h.1 hb ht) u,h.2⟩
theorem hZ.sets{g:Nat}{cs:Array Value}{t:TypeId}(h:hZ w base v l)(hb:Bk w g cs t)(ht:t≠3)(i:Nat)(vs:List Value):hZ (be w g i vs) base v l:=by
 induction vs generalizing w cs i with
 |nil=>exact h
 |cons u vs ih=>exact ih (h.far hb ht i u) (hb.set i u) (i+1)
theorem hZ.nil(w:World)(base:Nat):hZ w base (D none 0 0) []:=⟨yZ _ _ _ _,by simp,by simp⟩
end
structure pU {α:Type} (base e size:Nat) (f:α->List Value) (ok:World->α->Prop) (w:World) (v:Value) (ys:List α):Prop where
 own:da base e size f w v ys
 el:∀y∈ys,ok w y
section
variable {α:Type} {p base e size:Nat} {f:α->List Value} {ok:World->α->Prop} {w w':World} {v v':Value} {ys:List α}
theorem pU.nil(ok:World->α->Prop)(w:World):pU base e size f ok w (D none 0 0) ([]:List α):=⟨da.nil,fun y h=>by simp at h⟩
theorem pU.ext(h:pU base e size f ok w v ys)(hs:∀y,ok w y->ok w' y)(hx:ab w w'):pU base e size f ok w' v ys:=⟨h.own.ext hx,fun y hy=>hs y (h.el y hy)⟩
theorem pU.push{y:α}(h:pU base e size f ok w v ys)(ho:w'.ownsRow base e size v' (ys.length+1) ((ys.map f).flatten++f y))(hs:∀y,ok w y->ok w' y)(hy:ok w' y):pU base e size f ok w' v' (ys++[y]) :=
 ⟨da.push ho,fun z hz=>by
  rcases zM.1 hz with hz|hz
  ·exact hs z (h.el z hz)
  ·obtain rfl:z=y:=by simpa using hz
   exact hy⟩
theorem pU.form(h:pU base e size f ok w v ys):∃A c,v=D A ys.length c:=h.own.form
theorem pU.isS{β:Type}{R:World->List Value->β->Prop}(g:α->β)(h:pU base e size f ok w v ys)(hp:p<base)(hsz:0<size)(hf:∀y∈ys,(f y).length=size)(hR:∀y∈ys,ok w y->R w (f y) (g y)):bj p size R w v (ys.map g):=by
 refine bj.of_own (e:=e) (ys.map f) (fun cs hcs=>by obtain⟨y,hy,rfl⟩:=zF.1 hcs;exact hf y hy) hsz (by simp) (by rw[zJ];exact h.own) hp ?_;intro k cs x hcs hx;simp only[zP,yO]at hcs hx;obtain⟨y,hy,rfl⟩:=hcs;obtain⟨z,hz,rfl⟩:=hx;rw[hy]at hz;injection hz with hz;subst hz
 exact hR y (zW hy) (h.el y (zW hy))
end
end Go.Proofs.YtkaajgoeahahpaaGreatDoor

