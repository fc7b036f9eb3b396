import Derived.Test.YtkaajgoeahahpaaGreatDoorK23
set_option linter.all false
set_option maxRecDepth 100000
set_option maxHeartbeats 0
namespace Go.Proofs.YtkaajgoeahahpaaGreatDoor
open Go.Value renaming int→B
open Go.IntKind renaming i64→C
open Go.RowKit
variable {n:Nat}
def fQ(l:List aj)(id:gT)(k:Nat)(a:Int):Prop:=(a=-1/\(l.take k).find? (dm id)=none)\/(∃(j:Nat) (c:aj),a=(j:Int)/\j<k/\l[j]?=some c/\(l.take k).find? (dm id)=some c)
def cV(l:List aj)(id:gT)(k:Nat)(d:Int):Prop:=(d=-1/\((l.take k).filter (fH id)).getLast?=none)\/(∃(j:Nat) (c:aj),d=(j:Int)/\j<k/\l[j]?=some c/\((l.take k).filter (fH id)).getLast?=some c)
section
variable {l:List aj} {id:gT} {k:Nat} {a d:Int} {c:aj}
theorem fQ.zero(l:List aj)(id:gT):fQ l id 0 (-1):=.inl ⟨rfl,by simp⟩
theorem cV.zero(l:List aj)(id:gT):cV l id 0 (-1):=.inl ⟨rfl,by simp⟩
theorem fQ.no(h:fQ l id k a)(hc:l[k]?=some c)(hs:dm id c=false):fQ l id (k+1) a:=by
 unfold fQ at *
 rw[ax hc,List.find?_append];rcases h with ⟨h1,h2⟩|⟨j,c',h1,h2,h3,h4⟩
 ·exact .inl ⟨h1,by rw[h2];simp[hs]⟩
 ·exact .inr ⟨j,c',h1,by omega,h3,by rw[h4];rfl⟩
theorem fQ.old(h:fQ l id k a)(hc:l[k]?=some c)(ha:0<=a):fQ l id (k+1) a:=by
 unfold fQ at *
 rw[ax hc,List.find?_append];rcases h with ⟨h1,h2⟩|⟨j,c',h1,h2,h3,h4⟩
 ·omega
 ·exact .inr ⟨j,c',h1,by omega,h3,by rw[h4];rfl⟩
theorem fQ.new(h:fQ l id k a)(hc:l[k]?=some c)(hs:dm id c=true)(ha:a<0):fQ l id (k+1) (k:Int):=by
 unfold fQ at *
 rw[ax hc,List.find?_append];rcases h with ⟨h1,h2⟩|⟨j,c',h1,h2,h3,h4⟩
 ·exact .inr ⟨k,c,rfl,by omega,hc,by rw[h2];simp[hs]⟩
 ·omega
theorem cV.no(h:cV l id k d)(hc:l[k]?=some c)(hs:fH id c=false):cV l id (k+1) d:=by
 unfold cV at *
 rw[ax hc,xM,uB (by simp[hs]),List.filter_nil,xN];rcases h with ⟨h1,h2⟩|⟨j,c',h1,h2,h3,h4⟩
 ·exact .inl ⟨h1,h2⟩
 ·exact .inr ⟨j,c',h1,by omega,h3,h4⟩
theorem cV.put(hc:l[k]?=some c)(hs:fH id c=true):cV l id (k+1) (k:Int):=by unfold cV;rw[ax hc,xM,uC hs,List.filter_nil];exact .inr ⟨k,c,rfl,by omega,hc,by simp⟩
theorem By(h1:fQ l id l.length a)(h2:cV l id l.length d) :
  (a=-1/\aQ l id=(cJ.zero,4))\/(∃(j:Nat) (c:aj),a=(j:Int)/\l[j]?=some c /\
   ((d=-1/\aQ l id=(match dR c.str with|some x=>(x,0)|none=>(cJ.zero,4))) \/
    (∃(i:Nat) (e:aj),d=(i:Int)/\l[i]?=some e/\aQ l id=if e.kind=3 then (cJ.zero,6) else (e.lab,0)))):=by
 unfold fQ at h1;unfold cV at h2;rw[List.take_length]at h1 h2;rcases h1 with ⟨rfl,h1⟩|⟨j,c,rfl,-,h3,h1⟩
 ·exact .inl ⟨rfl,by unfold aQ;rw[h1];rfl⟩
 ·refine .inr ⟨j,c,rfl,h3,?_⟩;rcases h2 with ⟨rfl,h2⟩|⟨i,e,rfl,-,h4,h2⟩
  ·exact .inl ⟨rfl,by unfold aQ;rw[h1,h2];rfl⟩
  ·exact .inr ⟨i,e,rfl,h4,by unfold aQ;rw[h1,h2];rfl⟩
end
structure ka (w:World) (g o:Nat) (t s q k ct ts tq lp lc lg lv:Int) (str:List UInt8) (A:Option Addr) (n cc:Nat):Prop where
 c0:w.cell? ⟨g,o,none⟩=some (B C t)
 c1:w.cell? ⟨g,o+1,none⟩=some (B C s)
 c2:w.cell? ⟨g,o+2,none⟩=some (B C q)
 c3:w.cell? ⟨g,o+3,none⟩=some (B C k)
 c4:w.cell? ⟨g,o+4,none⟩=some (.string (ba str))
 c5:w.cell? ⟨g,o+5,none⟩=some (B C ct)
 c6:w.cell? ⟨g,o+6,none⟩=some (.slice A n cc)
 c7:w.cell? ⟨g,o+7,none⟩=some (B C ts)
 c8:w.cell? ⟨g,o+8,none⟩=some (B C tq)
 c9:w.cell? ⟨g,o+9,none⟩=some (B C lp)
 c10:w.cell? ⟨g,o+10,none⟩=some (B C lc)
 c11:w.cell? ⟨g,o+11,none⟩=some (B C lg)
 c12:w.cell? ⟨g,o+12,none⟩=some (B C lv)
theorem ka.ext{w w':World}{g o:Nat}{t s q k ct ts tq lp lc lg lv:Int}{str:List UInt8}{A:Option Addr}{cc:Nat}(h:ka w g o t s q k ct ts tq lp lc lg lv str A n cc)(e:ab w w'):ka w' g o t s q k ct ts tq lp lc lg lv str A n cc :=
 ⟨e.cell h.c0,e.cell h.c1,e.cell h.c2,e.cell h.c3,e.cell h.c4,e.cell h.c5,e.cell h.c6,e.cell h.c7,e.cell h.c8,e.cell h.c9,e.cell h.c10,e.cell h.c11,e.cell h.c12⟩
theorem au.read{p b off c k:Nat}{w wx:World}{l:List aj}(h:au p w (.slice (some ⟨b,off,none⟩) n c) l)(hx:XT p w wx)(hk:k<n) :
  ∃(t s q kd ct ts tq lp lc lg lv:Int) (str:List UInt8) (ch:List Int) (A:Option Addr) (m cc:Nat),Hid (l[k]?=some ⟨⟨t,s,q⟩,kd,str,ct,ch,⟨ts,tq⟩,⟨lp,lc,lg,lv⟩⟩) /\
   ka wx b (off+k*13) t s q kd ct ts tq lp lc lg lv str A m cc/\ak p wx (.slice A m cc) ch/\aj.wf ⟨⟨t,s,q⟩,kd,str,ct,ch,⟨ts,tq⟩,⟨lp,lc,lg,lv⟩⟩:=by
 obtain⟨cs,⟨⟨t,s,q⟩,kd,str,ct,ch,⟨ts,tq⟩,⟨lp,lc,lg,lv⟩⟩,-,hc,⟨u,rfl,hI,hw⟩,hx'⟩:=(h.xt (bR.stab p) hx).cell_ hk;obtain⟨A,m,cc,rfl,-⟩:=hI.open_;exact⟨t,s,q,kd,ct,ts,tq,lp,lc,lg,lv,str,ch,A,m,cc,hx',⟨hc 0 _ rfl,hc 1 _ rfl,hc 2 _ rfl,hc 3 _ rfl,hc 4 _ rfl,hc 5 _ rfl,hc 6 _ rfl,hc 7 _ rfl,hc 8 _ rfl,hc 9 _ rfl,hc 10 _ rfl,hc 11 _ rfl,hc 12 _ rfl⟩,hI,hw⟩
def Gd(l:List aj)(id:gT)(w:World)(e:Ending)(w':World):Prop :=
 ∃lp lc lg lv st:Int,e=.returned (.tuple #[.agg #[B C lp,B C lc,B C lg,B C lv],B C st])/\aQ l id=(⟨lp,lc,lg,lv⟩,st)/\ab w w'
def KB:World->List Value->cJ->Prop:=fun _ cs x=>cs=x.cells
def KX:World->List Value->Bool->Prop:=fun _ cs b=>cs=[.bool b]
theorem KB.stab(p:Nat):lV p KB:=fun _ _ _ _ h _=>h
theorem KX.stab(p:Nat):lV p KX:=fun _ _ _ _ h _=>h
structure AN (rs:List dH) (i:Nat) (x:dH) (k:Nat) (m:Int):Prop where
 fine:∀(j:Nat) y,j<k->rs[j]?=some y->dB x y=true->en x y=false
 m12:m=1\/m=2
 two:m=2↔∃(j:Nat) (y:dH),j<k/\j<i/\rs[j]?=some y/\dB x y=true
section
variable {rs:List dH} {i k:Nat} {x y:dH} {m:Int}
theorem AN.zero(rs:List dH)(i:Nat)(x:dH):AN rs i x 0 1:=⟨fun j y hj=>by omega,.inl rfl,⟨fun h=>by omega,fun⟨j,y,hj,_⟩=>by omega⟩⟩
theorem AN.skip(h:AN rs i x k m)(hy:rs[k]?=some y)(hs:dB x y=false):AN rs i x (k+1) m:=by
 refine⟨fun j z hj hz h1=>?_,h.m12,h.two.trans ⟨fun⟨j,z,a,b,c,d⟩=>⟨j,z,by omega,b,c,d⟩,fun⟨j,z,a,b,c,d⟩=>?_⟩⟩
 ·rcases zU j k with e|e
  ·exact h.fine j z e hz h1
  ·obtain rfl:j=k:=by omega
   rw[hy]at hz;injection hz with hz;subst hz;rw[hs]at h1;cases h1
 ·rcases zU j k with e|e
  ·exact⟨j,z,e,b,c,d⟩
  ·obtain rfl:j=k:=by omega
   rw[hy]at c;injection c with c;subst c;rw[hs]at d;cases d
end
def rr(l:List aj)(i c:Nat):Prop:=l[c]?=l[i]?/\c<=i/\∀j,j<c->l[j]?≠l[i]?
def If(l:List aj)(cls:List Int):Prop:=cls.length=l.length/\∀i,i<l.length->∃c:Nat,cls[i]?=some (c:Int)/\rr l i c
section
variable {l:List aj} {cls:List Int} {i k c c':Nat}
theorem rr.eq(h:rr l i c)(h':rr l k c')(hc:c<l.length):(c=c')↔l[i]?=l[k]?:=by
 constructor
 ·rintro rfl;rw[<-h.1,<-h'.1]
 ·intro e;rcases xO c c' with hl|hl|hl
  ·exact absurd (h.1.trans e) (h'.2.2 c hl)
  ·exact hl
  ·exact absurd (h'.1.trans e.symm) (h.2.2 c' hl)
theorem DV(hc:If l cls){a:aj}(ha:l[i]?=some a):iR (l.map aj.st) cls i=true↔qC l a=true/\∀j,j<i->l[j]?≠some a:=by
 have hil:=(zY.1 ha).1;have hst:(l.map aj.st)[i]?=some a.st:=by simp[ha]
 obtain⟨ci,hci,hi⟩:=hc.2 i hil;have hcil:ci<l.length:=by have:=hi.2.1;omega
 rw[gR hst,eu];constructor
 ·rintro⟨h1,h2⟩;refine⟨⟨h1,fun d hd hv hid=>?_⟩,fun j hj e=>?_⟩
  ·obtain⟨k,hk⟩:=zH hd;have hkl:=(zY.1 hk).1;obtain⟨ck,hck,hk'⟩:=hc.2 k hkl;have hag:=h2 k (by simpa using hkl);rw[jU hst (b:=d.st) (by simp[hk]) hci hck,hv,yK,vU]at hag;have h3:=hag.1;unfold iz at h3;rw[decide_eq_false_iff_not]at h3;have hid':d.st.s=a.st.s/\d.st.q=a.st.q:=by
    unfold aj.id at hid;rw[gT.eq_iff]at hid;exact hid
   have hcc:ci=ck:=by
    by_cases e:ci=ck
    ·exact e
    ·exact absurd ⟨hid'.1.symm,hid'.2.symm,.inr (by omega)⟩ h3
   have:=(hi.eq hk' hcil).1 hcc;rw[ha,hk]at this;injection this with this;exact this.symm
  ·have hjl:=(zY.1 e).1;obtain⟨cj,hcj,_⟩:=hc.2 j hjl;have hag:=h2 j (by simpa using hjl);rw[jU hst (b:=a.st) (by simp[e]) hci hcj,h1,yK,vU]at hag;have:=hag.2;simp[hj]at this
 ·rintro⟨⟨h1,h2⟩,h3⟩;refine⟨h1,fun k hk=>?_⟩;have hkl:k<l.length:=by simpa using hk
  have hd:l[k]?=some (l[k]'hkl):=zV _;obtain⟨ck,hck,hk'⟩:=hc.2 k hkl;rw[jU hst (b:=(l[k]'hkl).st) (by simp[hd]) hci hck];cases hv:dT (l[k]'hkl).st with
  |false=>rfl
  |true =>
   rw[yK,vU];have key:(l[k]'hkl).id=a.id->l[k]'hkl=a:=h2 _ (xC hkl) hv;constructor
   ·unfold iz;rw[decide_eq_false_iff_not];rintro⟨e1,e2,e3⟩;have e4:=key (by unfold aj.id;rw[gT.eq_iff];exact⟨e1.symm,e2.symm⟩);rcases e3 with e3|e3
    ·rw[e4]at e3;exact e3 rfl
    ·have:ci=ck:=(hi.eq hk' hcil).2 (by rw[ha,hd,e4]);omega
   ·by_cases hki:k<i
    ·rw[decide_eq_true hki,yK,decide_eq_false_iff_not];intro e;have e4:=key (by unfold aj.id;rw[e]);exact h3 k hki (by rw[hd,e4])
    ·rw[decide_eq_false hki];rfl
def eM(l:List aj)(out:List Int):List aj:=out.filterMap fun x=>l[x.toNat]?
theorem AJ{x:Nat}{a:aj}(out:List Int)(h:l[x]?=some a):eM l (out++[(x:Int)])=eM l out++[a]:=by unfold eM;rw[List.filterMap_append];simp[h]
theorem FW(hc:If l cls){out:List Int}(h:eQ (l.map aj.st) cls l.length out):eM l out=ay l:=by
 refine ir ?_ fun a=>?_
 ·unfold iT eM;rw[List.pairwise_filterMap];refine h.asc.imp_of_mem fun {x y} hx hy hxy a ha b hb=>?_;obtain⟨i,rfl,_,_⟩:=h.mem.1 hx;obtain⟨j,rfl,_,_⟩:=h.mem.1 hy;rw[yC]at ha hb;rw[pi (a:=a.st) (b:=b.st) (by simp[ha]) (by simp[hb])]at hxy;exact hxy
 ·unfold eM;rw[List.mem_filterMap];constructor
  ·rintro⟨x,hx,ha⟩;obtain⟨i,rfl,hi,hci⟩:=h.mem.1 hx;rw[yC]at ha;exact⟨zW ha,((DV hc ha).1 hci).1⟩
  ·rintro⟨hm,hcn⟩;obtain⟨i,hi⟩:=zH hm;have hil:=(zY.1 hi).1;obtain⟨c,_,h1,h2,h3⟩:=hc.2 i hil;have hca:l[c]?=some a:=h1.trans hi;refine⟨(c:Int),h.mem.2 ⟨c,rfl,by omega,(DV hc hca).2 ⟨hcn,fun j hj e=>h3 j hj (e.trans hi.symm)⟩⟩,by rw[yC];exact hca⟩
theorem D9{sts:List bN}{out:List Int}(h:eQ sts cls n out):out.length<=n:=by rw[h.perm.length_eq];unfold kh;rw[zJ];exact yR (uP _ _) (by simp)
end
end Go.Proofs.YtkaajgoeahahpaaGreatDoor

