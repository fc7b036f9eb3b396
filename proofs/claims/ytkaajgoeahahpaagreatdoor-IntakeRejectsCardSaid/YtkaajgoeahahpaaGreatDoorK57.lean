import Derived.Laws.Shifts
import Derived.Test.YtkaajgoeahahpaaGreatDoorK37
set_option linter.all false
set_option maxRecDepth 100000
set_option maxHeartbeats 0
namespace Go.Proofs.YtkaajgoeahahpaaGreatDoor
open Go.Value renaming int→A
open Go.IntKind renaming i64→B
open Go.RowKit _root_.Go.Proofs.Tryz
theorem so(xc xg xt xs xq yc yg yt ys yq:Int)(xch ych:List Int)(xA yA:Option Addr)(xn xcc yn ycc:Nat)(w:World){p q:Nat}(ha:ak p w (.slice xA xn xcc) xch)(hb:ak q w (.slice yA yn ycc) ych) :
  Calls prog 41 #[.agg #[A B xc,A B xg,A B xt,.slice xA xn xcc,A B xs,A B xq],.agg #[A B yc,A B yg,A B yt,.slice yA yn ycc,A B ys,A B yq]] w fun e w'=>e=.returned (.bool (decide ((⟨xc,xg,xt,xch,⟨xs,xq⟩⟩:Pg)=⟨yc,yg,yt,ych,⟨ys,yq⟩⟩)))/\ab w w':=by
 have e2:=fun W=>jW xs xq ys yq W;have g2:=fC;have HA:Bx (ak p w (.slice xA xn xcc) xch/\ak q w (.slice yA yn ycc) ych):=⟨⟨ha,hb⟩⟩
 clear ha hb;go_enter func41,ntmps41
 go_wp2_with (go_at_call 40;refine (rP _ _ xch ych _ (HA.out.1.ext (((zE _).alloc _).alloc _)) (HA.out.2.ext (((zE _).alloc _).alloc _))).mono ?_;rintro e w1 ⟨rfl,hx1⟩;have HE:=zZ ((((zE w).alloc _).alloc _).trans hx1);have q04:w1.cell? ⟨w.heap.size,4,none⟩=some (A B xs):=hx1.cell (by simp[go_sem,yI,yH]);have q05:w1.cell? ⟨w.heap.size,5,none⟩=some (A B xq):=hx1.cell (by simp[go_sem,yI,yH]);have q14:w1.cell? ⟨w.heap.size+1,4,none⟩=some (A B ys):=hx1.cell (by simp[go_sem,yI,yH]);have q15:w1.cell? ⟨w.heap.size+1,5,none⟩=some (A B yq):=hx1.cell (by simp[go_sem,yI,yH]);have HAll:=hx1;clear hx1);all_goals (go_ret;refine⟨aa ?_,?_⟩)
 all_goals (first|exact HE.out|exact ((zE _).alloc _).alloc _|(rw[yE];simp only[decide_eq_true_eq,Pg.eq_iff,gT.eq_iff];simp_all)|skip)
structure gG (s:dl) (C:List aj) (c0 c1 d:aj) (i0:Nat):Prop where
 ids:FB C
 at0:C[i0]?=some c0
 used:cR (af s C) i0 (aM s C c0)=1
 k1:c1.kind=1
 cont:c1.cont=c0.cont
 ch:c1.ch=c0.ch
 new:∀c∈C,c.id≠c1.id
 kd:d.kind=2
 tgt:d.tgt=c1.id
 lab:d.lab=(aM s C c0).lab
section
variable {s:dl} {C:List aj} {c0 c1 d:aj} {i0:Nat}
theorem gG.fit0(h:gG s C c0 c1 d i0):(aM s C c0).fit=true:=(ro (lL h.at0) h.used).1
theorem gG.scn(h:gG s C c0 c1 d i0){c:aj}(hc:c∈C):aM s (C++[c1,d]) c=aM s C c:=by
 have hne:=h.new c hc;have:aQ (C++[c1,d]) c.id=aQ C c.id:=by
  refine CU (fun e he=>?_) fun e he=>?_
  ·simp only[yM,wL,or_false]at he;unfold dm;rcases he with h'|h'
   ·have q:decide (e.id=c.id)=false:=decide_eq_false fun h2=>hne (by rw[<-h2,h']);rw[q];simp
   ·rw[h',h.kd];rfl
  ·simp only[yM,wL,or_false]at he;unfold fH;rcases he with h'|h'
   ·rw[h',h.k1];rfl
   ·have q:decide (e.tgt=c.id)=false:=decide_eq_false fun h2=>hne (by rw[<-h2,h',h.tgt]);rw[q];simp
 unfold aM;rw[this]
theorem gG.scn1(h:gG s C c0 c1 d i0):aM s (C++[c1,d]) c1=⟨c1,(aM s C c0).lab,0,true⟩:=by
 have h1:(C++[c1,d]).find? (dm c1.id)=some c1:=by
  rw[List.find?_append];have:C.find? (dm c1.id)=none:=by rw[List.find?_eq_none];intro c hc;unfold dm;rw[decide_eq_false (h.new c hc)];simp
  rw[this,List.find?_cons_of_pos (by unfold dm;rw[h.k1];simp)];rfl
 have h2:((C++[c1,d]).filter (fH c1.id)).getLast?=some d:=by
  rw[xM,List.getLast?_append];have:[c1,d].filter (fH c1.id)=[d]:=by rw[uB (by unfold fH;rw[h.k1];simp),uC (by unfold fH;rw[h.kd,h.tgt];simp)];rfl
  rw[this];rfl
 have hl:aQ (C++[c1,d]) c1.id=((aM s C c0).lab,0):=by unfold aQ;rw[h1,h2];unfold iI;simp[h.kd,h.lab]
 have hf:=(lK h.fit0).2.1;conv=>lhs;unfold aM
 rw[if_pos h.k1,hl];simp only[if_pos,h.ch];rw[hf];simp
theorem gG.scnd(h:gG s C c0 c1 d i0):aM s (C++[c1,d]) d=⟨d,cJ.zero,0,false⟩:=by unfold aM;rw[if_neg (by rw[h.kd];omega)]
theorem gG.rows(h:gG s C c0 c1 d i0):af s (C++[c1,d])=af s C++[⟨c1,(aM s C c0).lab,0,true⟩,⟨d,cJ.zero,0,false⟩]:=by
 unfold af;rw[yG];congr 1
 ·exact vK fun c hc=>h.scn hc
 ·simp[h.scn1,h.scnd]
theorem gG.same0(h:gG s C c0 c1 d i0):∀y∈af s C,dB (aM s C c0) y=true->en (aM s C c0) y=false:=by
 intro y hy hs;have hj:=(ro (lL h.at0) h.used).2.2;unfold dL at hj;split at hj
 ·omega
 ·rename_i hn
  simp only[Bool.not_eq_true,wO,yT,not_and]at hn;have:=hn y hy hs;simpa using this
theorem gG.state(h:gG s C c0 c1 d i0){i:Nat}{x:dH}(hx:(af s C)[i]?=some x):cR (af s (C++[c1,d])) i x=cR (af s C) i x:=by
 have hi:=(zY.1 hx).1;cases hf:x.fit with
 |false=>unfold cR;rw[hf];rfl
 |true =>
  have h2:((af s (C++[c1,d])).take i).any (dB x)=((af s C).take i).any (dB x):=by rw[h.rows,List.take_append_of_le_length (by omega)]
  have h1:((af s (C++[c1,d])).any fun y=>dB x y&&en x y)=((af s C).any fun y=>dB x y&&en x y):=by
   rw[h.rows,List.any_append];cases ha:(af s C).any fun y=>dB x y&&en x y with
   |true=>rfl
   |false =>
    rw[Bool.false_or];have e2:dB x (⟨d,cJ.zero,0,false⟩:dH)=false:=by unfold dB;rfl
    rw[List.any_cons,List.any_cons,List.any_nil,e2];cases hs:dB x (⟨c1,(aM s C c0).lab,0,true⟩:dH) with
    |false=>rfl
    |true =>
     unfold dB at hs;simp only[yK,decide_eq_true_eq]at hs;have hd:en x (aM s C c0)=false:=by
      rw[wO]at ha;have:=ha (aM s C c0) (zW (lL h.at0));have h0:dB x (aM s C c0)=true:=by unfold dB;rw[h.fit0,hs];simp
      rw[h0]at this;simpa using this
     have:en x (⟨c1,(aM s C c0).lab,0,true⟩:dH)=en x (aM s C c0):=by unfold en;rw[ff];simp only[h.cont,h.ch]
     rw[this,hd];rfl
  unfold cR dL;rw[h1,h2]
theorem gG.state1(h:gG s C c0 c1 d i0):cR (af s (C++[c1,d])) C.length ⟨c1,(aM s C c0).lab,0,true⟩=2:=by
 unfold cR;rw[if_pos rfl];unfold dL;rw[if_neg,if_pos]
 ·rw[wZ];refine⟨aM s C c0,?_,?_⟩
  ·rw[h.rows,List.take_left' (jw)];exact zW (lL h.at0)
  ·unfold dB;rw[h.fit0];simp
 ·simp only[Bool.not_eq_true,wO,yT,not_and];intro y hy hs;have e1:∀z,en (⟨c1,(aM s C c0).lab,0,true⟩:dH) z=en (aM s C c0) z:=fun z=>by
   unfold en;rw[ff];simp only[h.cont,h.ch]
  rw[e1];rw[h.rows,zM]at hy;rcases hy with hy|hy
  ·exact h.same0 y hy (by unfold dB at hs⊢;exact hs)
  ·simp only[yM,wL,or_false]at hy;rcases hy with rfl|rfl
   ·unfold en;rw[ff];simp[h.cont,h.ch]
   ·unfold dB at hs;cases hs
theorem gG.cases(h:gG s C c0 c1 d i0){i:Nat}{x:dH}(hx:(af s (C++[c1,d]))[i]?=some x):(af s C)[i]?=some x\/(i=C.length/\x=⟨c1,(aM s C c0).lab,0,true⟩)\/x.cap.kind=2:=by
 rw[h.rows]at hx;rcases zU i (af s C).length with hi|hi
 ·rw[yY hi]at hx;exact .inl hx
 ·rw[yL hi]at hx;have hn:=jw (s:=s) (l:=C);match hj:i-(af s C).length with
  |0 =>
   rw[hj]at hx;injection hx with hx;exact .inr (.inl ⟨by omega,hx.symm⟩)
  |1 =>
   rw[hj]at hx;injection hx with hx;exact .inr (.inr (by rw[<-hx];exact h.kd))
  |j+2=>rw[hj]at hx;cases hx
theorem gG.back(h:gG s C c0 c1 d i0){i:Nat}{x:dH}(hx:(af s C)[i]?=some x):(af s (C++[c1,d]))[i]?=some x:=by rw[h.rows,yY (zY.1 hx).1];exact hx
theorem gG.mem_sts(h:gG s C c0 c1 d i0){x:dF}:x∈(cQ s (C++[c1,d])).sts↔x∈(cQ s C).sts\/x=⟨c1.id,2,(aM s C c0).lab⟩:=by
 rw[Go.Proofs.YtkaajgoeahahpaaGreatDoor.mem_sts,Go.Proofs.YtkaajgoeahahpaaGreatDoor.mem_sts];constructor
 ·rintro⟨i,y,hy,hk,rfl⟩;rcases h.cases hy with h1|⟨rfl,rfl⟩|h1
  ·exact .inl ⟨i,y,h1,hk,by unfold lN;rw[h.state h1]⟩
  ·exact .inr (by unfold lN;rw[h.state1])
  ·omega
 ·rintro (⟨i,y,hy,hk,rfl⟩|rfl)
  ·exact⟨i,y,h.back hy,hk,by unfold lN;rw[h.state hy]⟩
  ·refine⟨C.length,⟨c1,(aM s C c0).lab,0,true⟩,?_,h.k1,by unfold lN;rw[h.state1]⟩;rw[h.rows,yL (by rw[jw];exact zX _),jw,vH];rfl
theorem gG.mem_pgs(h:gG s C c0 c1 d i0){x:Pg}:x∈(cQ s (C++[c1,d])).pgs↔x∈(cQ s C).pgs:=by
 rw[Go.Proofs.YtkaajgoeahahpaaGreatDoor.mem_pgs,Go.Proofs.YtkaajgoeahahpaaGreatDoor.mem_pgs];constructor
 ·rintro⟨i,y,hy,hk,hu,rfl⟩;rcases h.cases hy with h1|⟨rfl,rfl⟩|h1
  ·exact⟨i,y,h1,hk,by rw[<-h.state h1];exact hu,rfl⟩
  ·rw[h.state1]at hu;omega
  ·omega
 ·rintro⟨i,y,hy,hk,hu,rfl⟩;exact⟨i,y,h.back hy,hk,by rw[h.state hy];exact hu,rfl⟩
end
section
variable {s:dl} {l:List aj} {c0:aj} {lab:cJ}
theorem L4{c:aj}(h:JF c.st)(hv:dT c.st=true){so q:Int}(hs:4<=so):rV c ⟨⟨1000000,so,q⟩,0,[],0,[],⟨0,0⟩,⟨0,0,0,0⟩⟩=true:=by
 obtain⟨-,h1,-,-⟩:=h;simp only[dT,decide_eq_true_eq]at hv;refine decide_eq_true ?_;show c.st.t<1000000\/(c.st.t=1000000/\(c.st.s<so\/_))
 rcases h1 with h1|h1
 ·exact .inl (by omega)
 ·rcases Int.lt_or_eq_of_le hv.2.1 with h2|h2
  ·exact .inl h2
  ·exact .inr ⟨h2,.inl (by omega)⟩
end
theorem L7(s:dl)(l:List aj):(cQ s l).sts.length<=l.length:=by rw[ID];unfold aZ;exact yR (uV _ _) (by simp)
theorem Ma(s:dl)(l:List aj):(cQ s l).pgs.length<=l.length:=by rw[Ec];unfold bW;exact yR (uV _ _) (by simp)
end Go.Proofs.YtkaajgoeahahpaaGreatDoor

