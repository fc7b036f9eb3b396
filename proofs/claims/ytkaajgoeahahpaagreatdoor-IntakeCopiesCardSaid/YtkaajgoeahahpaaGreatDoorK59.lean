import Derived.Test.YtkaajgoeahahpaaGreatDoorSplitA
import Derived.Test.YtkaajgoeahahpaaGreatDoorIdxL
import Derived.Laws.Shifts
import Derived.Test.YtkaajgoeahahpaaGreatDoorK37
import Derived.Test.YtkaajgoeahahpaaGreatDoorK38
set_option linter.all false
set_option maxRecDepth 100000
set_option maxHeartbeats 0
namespace Go.Proofs.YtkaajgoeahahpaaGreatDoor
open Go.Value renaming int→B
open Go.IntKind renaming i64→D
open Go.RowKit
variable {g:Nat} {w:World} {cs:Array Value}
structure gG (s:dl) (C:List aj) (c0 c1 d:aj) (i0:Nat):Prop where
 ids:FB C
 at0:C[i0]?=some c0
 used:cR (af s C) i0 (aM s C c0)=1
 k1:c1.kind=1
 cont:c1.cont=c0.cont
 ch:c1.ch=c0.ch
 new:∀c∈C,c.id≠c1.id
 kd:d.kind=2
 tgt:d.tgt=c1.id
 lab:d.lab=(aM s C c0).lab
section
variable {s:dl} {C:List aj} {c0 c1 d:aj} {i0:Nat}
theorem gG.fit0(h:gG s C c0 c1 d i0):(aM s C c0).fit=true:=(ro (lL h.at0) h.used).1
theorem gG.scn(h:gG s C c0 c1 d i0){c:aj}(hc:c∈C):aM s (C++[c1,d]) c=aM s C c:=by
 have hne:=h.new c hc;have:aQ (C++[c1,d]) c.id=aQ C c.id:=by
  refine CU (fun e he=>?_) fun e he=>?_
  ·simp only[yM,wL,or_false]at he;unfold dm;rcases he with h'|h'
   ·have q:decide (e.id=c.id)=false:=decide_eq_false fun h2=>hne (by rw[<-h2,h']);rw[q];simp
   ·rw[h',h.kd];rfl
  ·simp only[yM,wL,or_false]at he;unfold fH;rcases he with h'|h'
   ·rw[h',h.k1];rfl
   ·have q:decide (e.tgt=c.id)=false:=decide_eq_false fun h2=>hne (by rw[<-h2,h',h.tgt]);rw[q];simp
 unfold aM;rw[this]
theorem gG.scn1(h:gG s C c0 c1 d i0):aM s (C++[c1,d]) c1=⟨c1,(aM s C c0).lab,0,true⟩:=by
 have h1:(C++[c1,d]).find? (dm c1.id)=some c1:=by
  rw[List.find?_append];have:C.find? (dm c1.id)=none:=by rw[List.find?_eq_none];intro c hc;unfold dm;rw[decide_eq_false (h.new c hc)];simp
  rw[this,List.find?_cons_of_pos (by unfold dm;rw[h.k1];simp)];rfl
 have h2:((C++[c1,d]).filter (fH c1.id)).getLast?=some d:=by
  rw[xM,List.getLast?_append];have:[c1,d].filter (fH c1.id)=[d]:=by rw[uB (by unfold fH;rw[h.k1];simp),uC (by unfold fH;rw[h.kd,h.tgt];simp)];rfl
  rw[this];rfl
 have hl:aQ (C++[c1,d]) c1.id=((aM s C c0).lab,0):=by unfold aQ;rw[h1,h2];unfold iI;simp[h.kd,h.lab]
 have hf:=(lK h.fit0).2.1;conv=>lhs;unfold aM
 rw[if_pos h.k1,hl];simp only[if_pos,h.ch];rw[hf];simp
theorem gG.scnd(h:gG s C c0 c1 d i0):aM s (C++[c1,d]) d=⟨d,cJ.zero,0,false⟩:=by unfold aM;rw[if_neg (by rw[h.kd];omega)]
theorem gG.rows(h:gG s C c0 c1 d i0):af s (C++[c1,d])=af s C++[⟨c1,(aM s C c0).lab,0,true⟩,⟨d,cJ.zero,0,false⟩]:=by
 unfold af;rw[yG];congr 1
 ·exact vK fun c hc=>h.scn hc
 ·simp[h.scn1,h.scnd]
theorem gG.same0(h:gG s C c0 c1 d i0):∀y∈af s C,dB (aM s C c0) y=true->en (aM s C c0) y=false:=by
 intro y hy hs;have hj:=(ro (lL h.at0) h.used).2.2;unfold dL at hj;split at hj
 ·omega
 ·rename_i hn
  simp only[Bool.not_eq_true,wO,yT,not_and]at hn;have:=hn y hy hs;simpa using this
theorem gG.state(h:gG s C c0 c1 d i0){i:Nat}{x:dH}(hx:(af s C)[i]?=some x):cR (af s (C++[c1,d])) i x=cR (af s C) i x:=by
 have hi:=(zY.1 hx).1;cases hf:x.fit with
 |false=>unfold cR;rw[hf];rfl
 |true =>
  have h2:((af s (C++[c1,d])).take i).any (dB x)=((af s C).take i).any (dB x):=by rw[h.rows,List.take_append_of_le_length (by omega)]
  have h1:((af s (C++[c1,d])).any fun y=>dB x y&&en x y)=((af s C).any fun y=>dB x y&&en x y):=by
   rw[h.rows,List.any_append];cases ha:(af s C).any fun y=>dB x y&&en x y with
   |true=>rfl
   |false =>
    rw[Bool.false_or];have e2:dB x (⟨d,cJ.zero,0,false⟩:dH)=false:=by unfold dB;rfl
    rw[List.any_cons,List.any_cons,List.any_nil,e2];cases hs:dB x (⟨c1,(aM s C c0).lab,0,true⟩:dH) with
    |false=>rfl
    |true =>
     unfold dB at hs;simp only[yK,decide_eq_true_eq]at hs;have hd:en x (aM s C c0)=false:=by
      rw[wO]at ha;have:=ha (aM s C c0) (zW (lL h.at0));have h0:dB x (aM s C c0)=true:=by unfold dB;rw[h.fit0,hs];simp
      rw[h0]at this;simpa using this
     have:en x (⟨c1,(aM s C c0).lab,0,true⟩:dH)=en x (aM s C c0):=by unfold en;rw[ff];simp only[h.cont,h.ch]
     rw[this,hd];rfl
  unfold cR dL;rw[h1,h2]
theorem gG.state1(h:gG s C c0 c1 d i0):cR (af s (C++[c1,d])) C.length ⟨c1,(aM s C c0).lab,0,true⟩=2:=by
 unfold cR;rw[if_pos rfl];unfold dL;rw[if_neg,if_pos]
 ·rw[wZ];refine⟨aM s C c0,?_,?_⟩
  ·rw[h.rows,List.take_left' (jw)];exact zW (lL h.at0)
  ·unfold dB;rw[h.fit0];simp
 ·simp only[Bool.not_eq_true,wO,yT,not_and];intro y hy hs;have e1:∀z,en (⟨c1,(aM s C c0).lab,0,true⟩:dH) z=en (aM s C c0) z:=fun z=>by
   unfold en;rw[ff];simp only[h.cont,h.ch]
  rw[e1];rw[h.rows,zM]at hy;rcases hy with hy|hy
  ·exact h.same0 y hy (by unfold dB at hs⊢;exact hs)
  ·simp only[yM,wL,or_false]at hy;rcases hy with rfl|rfl
   ·unfold en;rw[ff];simp[h.cont,h.ch]
   ·unfold dB at hs;cases hs
theorem gG.cases(h:gG s C c0 c1 d i0){i:Nat}{x:dH}(hx:(af s (C++[c1,d]))[i]?=some x):(af s C)[i]?=some x\/(i=C.length/\x=⟨c1,(aM s C c0).lab,0,true⟩)\/x.cap.kind=2:=by
 rw[h.rows]at hx;rcases zU i (af s C).length with hi|hi
 ·rw[yY hi]at hx;exact .inl hx
 ·rw[yL hi]at hx;have hn:=jw (s:=s) (l:=C);match hj:i-(af s C).length with
  |0 =>
   rw[hj]at hx;injection hx with hx;exact .inr (.inl ⟨by omega,hx.symm⟩)
  |1 =>
   rw[hj]at hx;injection hx with hx;exact .inr (.inr (by rw[<-hx];exact h.kd))
  |j+2=>rw[hj]at hx;cases hx
theorem gG.back(h:gG s C c0 c1 d i0){i:Nat}{x:dH}(hx:(af s C)[i]?=some x):(af s (C++[c1,d]))[i]?=some x:=by rw[h.rows,yY (zY.1 hx).1];exact hx
theorem gG.mem_sts(h:gG s C c0 c1 d i0){x:dF}:x∈(cQ s (C++[c1,d])).sts↔x∈(cQ s C).sts\/x=⟨c1.id,2,(aM s C c0).lab⟩:=by
 rw[Go.Proofs.YtkaajgoeahahpaaGreatDoor.mem_sts,Go.Proofs.YtkaajgoeahahpaaGreatDoor.mem_sts];constructor
 ·rintro⟨i,y,hy,hk,rfl⟩;rcases h.cases hy with h1|⟨rfl,rfl⟩|h1
  ·exact .inl ⟨i,y,h1,hk,by unfold lN;rw[h.state h1]⟩
  ·exact .inr (by unfold lN;rw[h.state1])
  ·omega
 ·rintro (⟨i,y,hy,hk,rfl⟩|rfl)
  ·exact⟨i,y,h.back hy,hk,by unfold lN;rw[h.state hy]⟩
  ·refine⟨C.length,⟨c1,(aM s C c0).lab,0,true⟩,?_,h.k1,by unfold lN;rw[h.state1]⟩;rw[h.rows,yL (by rw[jw];exact zX _),jw,vH];rfl
theorem gG.mem_pgs(h:gG s C c0 c1 d i0){x:Pg}:x∈(cQ s (C++[c1,d])).pgs↔x∈(cQ s C).pgs:=by
 rw[Go.Proofs.YtkaajgoeahahpaaGreatDoor.mem_pgs,Go.Proofs.YtkaajgoeahahpaaGreatDoor.mem_pgs];constructor
 ·rintro⟨i,y,hy,hk,hu,rfl⟩;rcases h.cases hy with h1|⟨rfl,rfl⟩|h1
  ·exact⟨i,y,h1,hk,by rw[<-h.state h1];exact hu,rfl⟩
  ·rw[h.state1]at hu;omega
  ·omega
 ·rintro⟨i,y,hy,hk,hu,rfl⟩;exact⟨i,y,h.back hy,hk,by rw[h.state hy];exact hu,rfl⟩
end
section
variable {s:dl} {l:List aj} {c0:aj} {lab:cJ}
def Md(c:aj):aj:={ c with st:=⟨1000000,60,1⟩ }
def Me(lab:cJ):aj:=⟨⟨1000000,60,2⟩,2,[],0,[],⟨60,1⟩,lab⟩
theorem L4{c:aj}(h:JF c.st)(hv:dT c.st=true){so q:Int}(hs:4<=so):rV c ⟨⟨1000000,so,q⟩,0,[],0,[],⟨0,0⟩,⟨0,0,0,0⟩⟩=true:=by
 obtain⟨-,h1,-,-⟩:=h;simp only[dT,decide_eq_true_eq]at hv;refine decide_eq_true ?_;show c.st.t<1000000\/(c.st.t=1000000/\(c.st.s<so\/_))
 rcases h1 with h1|h1
 ·exact .inl (by omega)
 ·rcases Int.lt_or_eq_of_le hv.2.1 with h2|h2
  ·exact .inl h2
  ·exact .inr ⟨h2,.inl (by omega)⟩
theorem Mi(hS:∀c∈l,JF c.st):ay (l++[Md c0,Me lab])=ay l++[Md c0,Me lab]:=by
 have hm:∀e∈[Md c0,Me lab],e=Md c0\/e=Me lab:=fun e he=>by simpa using he
 have h60:∀c∈l,c.id.s≠60:=fun c hc=>(hS c hc).2.2.2;refine Cp ?_ (fun e he=>?_) (fun e he c hc hid=>?_) (fun e he e' he' hid=>?_) (fun c hc hv e he=>?_)
 ·refine List.Pairwise.cons (fun e he=>?_) (wR _ _);obtain rfl:e=Me lab:=by simpa using he
  unfold rV gY;exact decide_eq_true (Or.inr ⟨rfl,Or.inr ⟨rfl,(by decide:(1:Int)<2)⟩⟩)
 ·rcases hm e he with rfl|rfl
  ·exact (by decide:dT ⟨1000000,60,1⟩=true)
  ·exact (by decide:dT ⟨1000000,60,2⟩=true)
 ·rcases hm e he with rfl|rfl<;>exact h60 c hc (by rw[<-hid];rfl)
 ·rcases hm e he with rfl|rfl<;>rcases hm e' he' with rfl|rfl
  ·rfl
  ·exact absurd (congrArg gT.q hid) (by decide:¬(1:Int)=2)
  ·exact absurd (congrArg gT.q hid) (by decide:¬(2:Int)=1)
  ·rfl
 ·rcases hm e he with rfl|rfl
  ·exact L4 (q:=1) (hS c hc) hv (by decide:(4:Int)<=60)
  ·exact L4 (q:=2) (hS c hc) hv (by decide:(4:Int)<=60)
theorem Mf{c:aj}(h:c∈ay l):c∈l:=(gf.1 h).1
theorem Mm(hS:∀c∈l,JF c.st){p:Pg}(hp:p∈(cQ s (ay l)).pgs):∃(i0:Nat) (c0:aj) (lab:cJ),(ay l)[i0]?=some c0/\c0.kind=1/\c0.id=p.scan /\
  (∀(k:Nat) c,(ay l)[k]?=some c->c.id=p.scan->k=i0)/\tU (cQ s (ay l)).sts p.scan=some ⟨p.scan,1,lab⟩ /\
  tU (cQ s (ay (l++[Md c0,Me lab]))).sts ⟨60,1⟩=some ⟨⟨60,1⟩,2,lab⟩/\(cQ s (ay (l++[Md c0,Me lab]))).sts.length=(cQ s (ay l)).sts.length+1 /\
  (cQ s (ay (l++[Md c0,Me lab]))).sts.filter (fun x=>!decide (x.scan=⟨60,1⟩))=(cQ s (ay l)).sts/\(cQ s (ay (l++[Md c0,Me lab]))).pgs=(cQ s (ay l)).pgs:=by
 obtain⟨i0,y,hy,hk,hu,rfl⟩:=mem_pgs.1 hp;obtain⟨hc,hyc⟩:=de hy;obtain⟨c0,hc0⟩:=nm y.cap;rw[<-hc0]at hc hyc hk;have hid:(ay l).Pairwise fun a b=>a.id≠b.id:=sN;have hun:∀(k:Nat) c,(ay l)[k]?=some c->c.id=c0.id->k=i0:=fun k c h he=>by
  rcases xO k i0 with hlt|heq|hlt
  ·exact absurd he (kO hid h hc hlt)
  ·exact heq
  ·exact absurd he.symm (kO hid hc h hlt)
 have hC:gG s (ay l) c0 (Md c0) (Me (aM s (ay l) c0).lab) i0 :=
  ⟨hid,hc,by rw[<-hyc];exact hu,hk,rfl,rfl,fun c hcm he=>(hS c (Mf hcm)).2.2.2 (congrArg gT.s he),rfl,rfl,rfl⟩
 have hI2:FB (ay l++[Md c0,Me (aM s (ay l) c0).lab]):=by rw[<-Mi hS];exact sN
 have hscan:(Gs y).scan=c0.id:=by rw[hc0];rfl
 have hm1:(⟨c0.id,1,(aM s (ay l) c0).lab⟩:dF)∈(cQ s (ay l)).sts:=mem_sts.2 ⟨i0,y,hy,by rw[<-hc0];exact hk,by unfold lN;rw[hu,<-hc0,hyc]⟩
 have hx1:(⟨(Md c0).id,2,(aM s (ay l) c0).lab⟩:dF)∈(cQ s (ay l++[Md c0,Me (aM s (ay l) c0).lab])).sts:=hC.mem_sts.2 (.inr rfl);have hne:∀x∈(cQ s (ay l)).sts,x.scan≠⟨60,1⟩:=fun x hx he=>by obtain⟨i,z,hz,-,rfl⟩:=mem_sts.1 hx;obtain⟨h1,-⟩:=de hz;exact (hS z.cap (Mf (zW h1))).2.2.2 (congrArg gT.s he)
 have hfl:(cQ s (ay l++[Md c0,Me (aM s (ay l) c0).lab])).sts.filter (fun x=>!decide (x.scan=⟨60,1⟩))=(cQ s (ay l)).sts:=by
  refine IB wm ((GT hI2).sub List.filter_sublist) (GT hid) fun x=>?_;rw[xR,hC.mem_sts];constructor
  ·rintro⟨h1|rfl,h2⟩
   ·exact h1
   ·simp[Md,aj.id]at h2
  ·intro h;exact⟨.inl h,by simpa using hne x h⟩
 refine⟨i0,c0,(aM s (ay l) c0).lab,hc,hk,hscan.symm,fun k c h he=>hun k c h (he.trans hscan),?_,?_⟩
 ·rw[hscan];exact sG (x:=⟨c0.id,1,(aM s (ay l) c0).lab⟩) hid hm1
 rw[Mi hS];refine⟨?_,?_,hfl,?_⟩
 ·exact sG (x:=⟨(Md c0).id,2,(aM s (ay l) c0).lab⟩) hI2 hx1
 ·have h1:=DI _ _ (iT.nodup wm (GT hI2)) hx1;rw[<-h1,<-hfl];congr 1
  refine congrArg List.length (List.filter_congr fun x hx=>?_);rcases hC.mem_sts.1 hx with h|rfl
  ·have h2:=hne x h;have h3:x≠⟨(Md c0).id,2,(aM s (ay l) c0).lab⟩:=fun e=>h2 (by rw[e];rfl);simp[h2,h3]
  ·simp[Md,aj.id]
 ·exact IB Kn jv jv fun x=>hC.mem_pgs
end
open _root_.Go.Proofs.Tryz
theorem bj.lit2{α:Type}{p size:Nat}{R:World->List Value->α->Prop}{t:TypeId}{c1 c2:List Value}{x y:α}(hb:Bk w g cs t)(hc:cs.toList=c1++c2)(l1:c1.length=size)(l2:c2.length=size)(hp:g≠p)(h1:R w c1 x)(h2:R w c2 y) :
  bj p size R w (.slice (some ⟨g,0,none⟩) 2 2) [x,y]:=by
 refine⟨some ⟨g,0,none⟩,2,rfl,by simp,by omega,fun k z hz=>?_⟩;have hcell:∀i u,(c1++c2)[i]?=some u->w.cell? ⟨g,i,none⟩=some u:=fun i u hu=>hb.cell (by rw[<-Array.getElem?_toList,hc];exact hu);rcases k with _|_|k
 ·obtain rfl:x=z:=by simpa using hz
  exact⟨g,0,c1,rfl,hp,l1,fun j u hu=>hcell _ u (by rw[vQ,yQ,yV,yY (zY.1 hu).1];exact hu),h1⟩
 ·obtain rfl:y=z:=by simpa using hz
  exact⟨g,0,c2,rfl,hp,l2,fun j u hu=>hcell _ u (by rw[yL (by omega),show 0+(0+1)*size+j-c1.length=j by omega];exact hu),h2⟩
 ·simp at hz
theorem Mk{p:Nat}{v:Value}{t:r6}{id id':gT}{st:Int}{lab:cJ}(h:aK p w v t)(hf:tU t.sts id=some ⟨id',st,lab⟩):lab.wf:=by obtain⟨vS,vG,-,⟨A,c,-,-,-,h4⟩,-⟩:=h;obtain⟨k,hk⟩:=zH (List.mem_of_find?_eq_some hf);obtain⟨b,off,cs,-,-,-,-,hr⟩:=h4 k _ hk;exact hr.2.2.2
theorem L7(s:dl)(l:List aj):(cQ s l).sts.length<=l.length:=by rw[ID];unfold aZ;exact yR (uV _ _) (by simp)
theorem Ma(s:dl)(l:List aj):(cQ s l).pgs.length<=l.length:=by rw[Ec];unfold bW;exact yR (uV _ _) (by simp)
theorem Mj{o:Oper}{ev:Operand->Value}{x y:Operand}{a0 a1 a2 a3 a4 a5 a6:Int}(ho:o.op=.store 67 x y)(hx:ev x=.pointer (some ⟨g,0,none⟩))(hy:ev y=.agg #[B D a0,B D a1,B D a2,B D a3,B D a4,B D a5,B D a6])(hb:Bk w g cs 67)(hs:cs.size=7) :
  (execOp ev o).run prog w=.ok .skip (be w g 0 [B D a0,B D a1,B D a2,B D a3,B D a4,B D a5,B D a6]):=by
 have j0:=hb.cell (i:=0) (xG (by omega));have j1:=hb.cell (i:=1) (xG (by omega));have j2:=hb.cell (i:=2) (xG (by omega));have j3:=hb.cell (i:=3) (xG (by omega));have j4:=hb.cell (i:=4) (xG (by omega));have j5:=hb.cell (i:=5) (xG (by omega));have j6:=hb.cell (i:=6) (xG (by omega));have z0:=(hb).froz;have z1:=z0;have z2:=z0;have z3:=z0;have z4:=z0;have z5:=z0;have z6:=z0;unfold execOp;rw[ho];simp only[hx,hy];go_simp;rfl
theorem Ml{o:Oper}{ev:Operand->Value}{x y:Operand}{a0 a1 a2 a4 a5:Int}{b:Option Addr}{n c:Nat}(ho:o.op=.store 72 x y)(hx:ev x=.pointer (some ⟨g,0,none⟩))(hy:ev y=.agg #[B D a0,B D a1,B D a2,.slice b n c,B D a4,B D a5])(hb:Bk w g cs 72)(hs:cs.size=6) :
  (execOp ev o).run prog w=.ok .skip (be w g 0 [B D a0,B D a1,B D a2,.slice b n c,B D a4,B D a5]):=by
 have j0:=hb.cell (i:=0) (xG (by omega));have j1:=hb.cell (i:=1) (xG (by omega));have j2:=hb.cell (i:=2) (xG (by omega));have j3:=hb.cell (i:=3) (xG (by omega));have j4:=hb.cell (i:=4) (xG (by omega));have j5:=hb.cell (i:=5) (xG (by omega));have z0:=(hb).froz;have z1:=z0;have z2:=z0;have z3:=z0;have z4:=z0;have z5:=z0;unfold execOp;rw[ho];simp only[hx,hy];go_simp;rfl
end Go.Proofs.YtkaajgoeahahpaaGreatDoor

