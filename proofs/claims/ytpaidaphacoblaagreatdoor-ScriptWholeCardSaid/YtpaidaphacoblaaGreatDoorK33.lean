import Derived.Test.YtpaidaphacoblaaGreatDoorK25
import Derived.Test.YtpaidaphacoblaaGreatDoorK22
set_option linter.all false
set_option maxRecDepth 100000
set_option maxHeartbeats 0
namespace Go.Proofs.YtpaidaphacoblaaGreatDoor
open Go.Value renaming int→B
open Go.IntKind renaming i64→C
open Go.RowKit
variable {j k n:Nat} {pg:List Int} {code var:Int}
def bF(pgs:List (List Int))(j:Nat):Nat:=((pgs.take j).map List.length).sum
theorem i3{pgs:List (List Int)}(h:pgs[j]?=some pg):bF pgs (j+1)=bF pgs j+pg.length:=by unfold bF;rw[ax h];simp
theorem k6{ns:List Int}:∀(pgs:List (List Int)) (nx:Nat),eh ns nx pgs->(∀j pg,pgs[j]?=some pg->oW ns (nx+bF pgs j) pg)/\nx+bF pgs pgs.length=ns.length:=by
 intro pgs;induction pgs with
 |nil=>intro nx h;exact⟨fun j pg hj=>by simp at hj,by have h':nx=ns.length:=h;simpa[bF] using h'⟩
 |cons p rest ih =>
  intro nx h;obtain⟨h1,h2⟩:=h;obtain⟨h3,h4⟩:=ih _ h2;refine⟨fun j pg hj=>?_,?_⟩
  ·cases j with
   |zero=>simp at hj;subst hj;simpa[bF] using h1
   |succ j =>
    have:=h3 j pg (by simpa using hj);have e:nx+p.length+bF rest j=nx+bF (p::rest) (j+1):=by unfold bF;simp;omega
    rw[e]at this;exact this
  ·have e:nx+p.length+bF rest rest.length=nx+bF (p::rest) (p::rest).length:=by unfold bF;simp;omega
   rw[e]at h4;exact h4
section
variable {ns:List Int} {pgs:List (List Int)}
theorem Ox(pgs:List (List Int)){a b:Nat}(h:a<=b):bF pgs a<=bF pgs b:=by
 obtain⟨m,rfl⟩:∃m,b=a+m:=⟨b-a,by omega⟩
 unfold bF;rw[List.take_add,yG,List.sum_append];omega
theorem OD(hok:eh ns 0 pgs)(hp:pgs[j]?=some pg)(t:Nat):(t:Int)∈pg↔bF pgs j<=t/\t<bF pgs (j+1):=by
 have h:=(k6 pgs 0 hok).1 j pg hp;rw[yV]at h;rw[i3 hp];constructor
 ·intro hm;obtain⟨i,hi⟩:=zH hm;have hil:=(zY.1 hi).1;have:=h.1.2 i _ hil hi;omega
 ·intro hb;have hil:t-bF pgs j<pg.length:=by omega
  have:=h.1.2 (t-bF pgs j) _ hil (zV hil);have e:pg[t-bF pgs j]=(t:Int):=by omega
  rw[<-e];exact xC _
theorem Ov(hok:eh ns 0 pgs)(hp:pgs[j]?=some pg)(t:Nat):kF pgs (t:Int)=(j:Int)↔(t:Int)∈pg:=by
 have hasI:∀(l:List Int) (x:Int),N7 x l=true↔x∈l:=by
  intro l x;unfold N7;rw[wZ];constructor
  ·rintro⟨y,hy,he⟩;simp at he;subst he;exact hy
  ·intro h;exact⟨x,h,by simp⟩
 have hj:=(zY.1 hp).1;constructor
 ·intro h;unfold kF QF at h;split at h
  ·rename_i ha
   have hlt:pgs.findIdx (N7 (t:Int))<pgs.length:=by rw[List.findIdx_lt_length];obtain⟨l,hl,hh⟩:=wZ.1 ha;exact⟨l,hl,hh⟩
   have hw:=List.findIdx_getElem (w:=hlt);have e:pgs.findIdx (N7 (t:Int))=j:=by omega
   have e2:pgs[pgs.findIdx (N7 (t:Int))]=pg:=by have:=zY.1 hp;obtain⟨_,h2⟩:=this;rw[<-h2];congr 1
   rw[e2]at hw;exact (hasI _ _).1 hw
  ·omega
 ·intro h;have hb:=(OD hok hp t).1 h;refine (P8 (f:=N7 (t:Int)) hp ((hasI _ _).2 h) (fun i y hi hy=>?_)).symm;cases e:N7 (t:Int) y with
  |false=>rfl
  |true =>
   exfalso;have h1:=(OD hok hy t).1 ((hasI _ _).1 e);have:=Ox pgs (show i+1<=j by omega);omega
end
section
variable {ps:List av} {pgs:List (List Int)} {J:List Int->Int} {page:Int} {A:List Int} {rs:List (List Int)} {i at_:Nat} {G:List (Nat×Nat)} {cs:List Int}
theorem NT{J:List Int->Int}{fs:List lY}{cs:List Int}(hj:j<n):(NP J n fs cs)[j]?=some (if gE fs cs (j:Int)=[] then -1 else J (gE fs cs (j:Int))):=by unfold NP;rw[zP,wJ hj];rfl
end
theorem Pk{s:dl}{i:r6}{x:fv}(h:cj s i x=true):lb i.sts x.cand=[]/\a8 i.pgs x.cand (F9 s x.var)=[]:=by
 unfold cj gt at h;by_cases h1:lb i.sts x.cand=[]
 ·rw[if_neg (by simp[h1])]at h;by_cases h2:a8 i.pgs x.cand (F9 s x.var)=[]
  ·exact⟨h1,h2⟩
  ·rw[if_neg h2]at h;split at h<;>simp at h
 ·rw[if_pos h1]at h;simp at h
theorem Po{l:List Pg}{c:Int}{g:Nat}(h:a8 l c n=[])(hg:g<n):∃y,dG l c (g:Int)=some y:=by
 cases e:dG l c (g:Int) with
 |some y=>exact⟨y,rfl⟩
 |none =>
  have:(g:Int)∈a8 l c n:=by unfold a8;exact List.mem_filterMap.2 ⟨g,yX.2 hg,by rw[e];rfl⟩
  rw[h]at this;cases this
section
variable {s:dl} {i:r6} {x:fv} {q:je} {b:List (List Int)} {d f ld:Int}
theorem dU.bkv(h:dU s)(hq:s.pap[k]?=some q)(hb:s.bk[k]?=some b):fD q.code q.var q.ps=true/\jH q.code q.var q.ps b=true:=by have:=h.pap k (zY.1 hq).1;unfold jK at this;rw[hq,hb]at this;simp only[yT]at this;exact⟨this.1,this.2.2.2⟩
theorem P4(h:KY s i)(hx:fo s.xp x.cand=some x)(hq:s.pap[x.var.toNat]?=some q)(hb:s.bk[x.var.toNat]?=some b)(hd:cj s i x=true)(hp:b[j]?=some pg) :
  ∃y,dG i.pgs x.cand (j:Int)=some y/\y.ch.length=(dr q.code q.var q.ps b (j:Int)).length/\y.ch.all fE=true:=by
 have hn:F9 s x.var=b.length:=by unfold F9;rw[hb];rfl
 have hj:=(zY.1 hp).1;obtain⟨y,hy⟩:=Po (Pk hd).2 (by omega:j<F9 s x.var);obtain⟨hm,hc,hg⟩:=My hy;obtain⟨x',q',b',h1,h2,h3,-,-,h6,h7⟩:=h.pg_in hm;rw[hc,hx]at h1;injection h1 with h1;subst h1;rw[hq]at h2;injection h2 with h2;subst h2;rw[hb]at h3;injection h3 with h3;subst h3;rw[hg]at h6;exact⟨y,hy,h6,h7⟩
theorem OT(hq:s.pap[x.var.toNat]?=some q)(hb:s.bk[x.var.toNat]?=some b){t:Nat}{r:av}(hr:q.ps[t]?=some r) :
  (Mj s i d f ld x)[t]?=some (if r.kind=2 then (match dG i.pgs x.cand (kF b (t:Int)) with
   |some pg=>(d9 q.code q.var q.ps b d f ld (kF b (t:Int)) pg.ch).getD t 0
   |none=>(d9 q.code q.var q.ps b d f ld (kF b (t:Int)) []).getD t 0) else -1):=by
 unfold Mj;rw[hq,hb];simp only;rw[zP,wJ (zY.1 hr).1];simp only[Option.map_some,hr];cases dG i.pgs x.cand (kF b (t:Int))<;>rfl
theorem PM(hq:s.pap[x.var.toNat]?=some q)(hb:s.bk[x.var.toNat]?=some b):(Mj s i d f ld x).length=q.ps.length:=by unfold Mj;rw[hq,hb];simp
theorem Px{ps:List av}{pgs:List (List Int)}(h:jH code var ps pgs=true)(hp:pgs[j]?=some pg){fl:lY}(hf:fl∈dr code var ps pgs (j:Int)):∃r,ps[fl.part.toNat]?=some r/\r.kind=2:=by rw[gn h hp]at hf;obtain⟨z,hz,hm⟩:=G4 hf;obtain⟨h1,r,h2,h3,-⟩:=Er hm;exact⟨r,by rw[h1];exact h2,h3⟩
theorem Pw(h:KY s i)(hx:fo s.xp x.cand=some x)(hq:s.pap[x.var.toNat]?=some q)(hb:s.bk[x.var.toNat]?=some b)(hv:j5 d f ld=true)(hp:b[j]?=some pg){y:Pg}(hy:dG i.pgs x.cand (j:Int)=some y)(hl:y.ch.length=(dr q.code q.var q.ps b (j:Int)).length)(ha:y.ch.all fE=true) :
  Mg q.code q.var q.ps b d f ld (j:Int) y.ch=0/\(d9 q.code q.var q.ps b d f ld (j:Int) y.ch).length=q.ps.length /\
   ∀t:Nat,(t:Int)∈pg->t<q.ps.length->∃v,(d9 q.code q.var q.ps b d f ld (j:Int) y.ch)[t]?=some v/\(Mj s i d f ld x)[t]?=some v:=by
 have hok:=iL.1 h.chk;have hbk:=(hok.bkv hq hb).2;have hj:=(zY.1 hp).1;obtain⟨e1,e2⟩:=PO (d:=d) (f:=f) (ld:=ld) ⟨hv,hbk⟩ ⟨by omega,by omega⟩ hl ha;refine⟨e2.symm,by rw[<-e1];unfold NP;simp,fun t ht htn=>?_⟩;have hr:q.ps[t]?=some q.ps[t]:=zV htn;have hpo:=(Ov (J0 hbk).2.2.2.2 hp t).2 ht;rw[OT hq hb hr,hpo,hy];simp only;rw[<-e1,NT htn];refine⟨_,rfl,?_⟩;by_cases hk:q.ps[t].kind=2
 ·rw[if_pos hk];congr 1
  unfold List.getD;rw[NT htn];rfl
 ·rw[if_neg hk,if_pos];refine BG fun fl hfl e=>?_;obtain⟨r,h1,h2⟩:=Px hbk hp hfl;rw[e,yC,hr]at h1;injection h1 with h1;subst h1;exact hk h2
end
def sF(R:List Int)(k:Nat):List Int:=R.take k++List.replicate (R.length-k) (-1)
theorem Oy(R:List Int):sF R 0=List.replicate R.length (-1):=by unfold sF;simp
theorem O7(R:List Int):sF R R.length=R:=by unfold sF;simp
theorem Pf{R:List Int}(h:k<=R.length):(sF R k).length=R.length:=by unfold sF;simp;omega
theorem Pa{R:List Int}{v:Int}(h:R[k]?=some v):(sF R k).set k v=sF R (k+1):=by
 have hk:=(zY.1 h).1;unfold sF;refine xW fun j=>?_;rw[yD];by_cases e:k=j
 ·subst e;rw[if_pos rfl,if_pos (by simp;omega),yY (by simp;omega),yB,if_pos (by omega),h]
 ·rw[if_neg e];rcases zU j k with h1|h1
  ·rw[yY (by simp;omega),yY (by simp;omega),yB,yB,if_pos h1,if_pos (by omega)]
  ·rw[yL (by simp;omega),yL (by simp;omega),List.getElem?_replicate,List.getElem?_replicate];simp only[yW];congr 1
   exact propext ⟨fun _=>by omega,fun _=>by omega⟩
theorem QC{ps:List av}{pgs:List (List Int)}(h:jH code var ps pgs=true){m:Nat}{z:Int}(hp:pgs[j]?=some pg)(hz:pg[m]?=some z):z=((bF pgs j+m:Nat):Int)/\bF pgs j+m<ps.length:=by have hok:=(J0 h).2.2.2.2;have h1:=(k6 pgs 0 hok).1 j pg hp;rw[yV]at h1;have hm:=(zY.1 hz).1;have h2:=h1.1.1;rw[zJ]at h2;exact⟨h1.1.2 m z hm hz,by omega⟩
theorem Nb{ps:List av}{pgs:List (List Int)}(h:jH code var ps pgs=true):bF pgs pgs.length=ps.length:=by have:=(k6 pgs 0 (J0 h).2.2.2.2).2;rwa [yV,zJ]at this
theorem M6(pgs:List (List Int)):bF pgs 0=0:=rfl
def fQ(l:List aj)(id:gT)(k:Nat)(a:Int):Prop:=(a=-1/\(l.take k).find? (dm id)=none)\/(∃(j:Nat) (c:aj),a=(j:Int)/\j<k/\l[j]?=some c/\(l.take k).find? (dm id)=some c)
def cV(l:List aj)(id:gT)(k:Nat)(d:Int):Prop:=(d=-1/\((l.take k).filter (fH id)).getLast?=none)\/(∃(j:Nat) (c:aj),d=(j:Int)/\j<k/\l[j]?=some c/\((l.take k).filter (fH id)).getLast?=some c)
section
variable {l:List aj} {id:gT} {k:Nat} {a d:Int} {c:aj}
theorem fQ.zero(l:List aj)(id:gT):fQ l id 0 (-1):=.inl ⟨rfl,by simp⟩
theorem cV.zero(l:List aj)(id:gT):cV l id 0 (-1):=.inl ⟨rfl,by simp⟩
theorem fQ.no(h:fQ l id k a)(hc:l[k]?=some c)(hs:dm id c=false):fQ l id (k+1) a:=by
 unfold fQ at *
 rw[ax hc,List.find?_append];rcases h with ⟨h1,h2⟩|⟨j,c',h1,h2,h3,h4⟩
 ·exact .inl ⟨h1,by rw[h2];simp[hs]⟩
 ·exact .inr ⟨j,c',h1,by omega,h3,by rw[h4];rfl⟩
theorem fQ.old(h:fQ l id k a)(hc:l[k]?=some c)(ha:0<=a):fQ l id (k+1) a:=by
 unfold fQ at *
 rw[ax hc,List.find?_append];rcases h with ⟨h1,h2⟩|⟨j,c',h1,h2,h3,h4⟩
 ·omega
 ·exact .inr ⟨j,c',h1,by omega,h3,by rw[h4];rfl⟩
theorem fQ.new(h:fQ l id k a)(hc:l[k]?=some c)(hs:dm id c=true)(ha:a<0):fQ l id (k+1) (k:Int):=by
 unfold fQ at *
 rw[ax hc,List.find?_append];rcases h with ⟨h1,h2⟩|⟨j,c',h1,h2,h3,h4⟩
 ·exact .inr ⟨k,c,rfl,by omega,hc,by rw[h2];simp[hs]⟩
 ·omega
theorem cV.no(h:cV l id k d)(hc:l[k]?=some c)(hs:fH id c=false):cV l id (k+1) d:=by
 unfold cV at *
 rw[ax hc,xM,uB (by simp[hs]),List.filter_nil,xN];rcases h with ⟨h1,h2⟩|⟨j,c',h1,h2,h3,h4⟩
 ·exact .inl ⟨h1,h2⟩
 ·exact .inr ⟨j,c',h1,by omega,h3,h4⟩
theorem cV.put(hc:l[k]?=some c)(hs:fH id c=true):cV l id (k+1) (k:Int):=by unfold cV;rw[ax hc,xM,uC hs,List.filter_nil];exact .inr ⟨k,c,rfl,by omega,hc,by simp⟩
theorem By(h1:fQ l id l.length a)(h2:cV l id l.length d) :
  (a=-1/\aQ l id=(cJ.zero,4))\/(∃(j:Nat) (c:aj),a=(j:Int)/\l[j]?=some c /\
   ((d=-1/\aQ l id=(match dR c.str with|some x=>(x,0)|none=>(cJ.zero,4))) \/
    (∃(i:Nat) (e:aj),d=(i:Int)/\l[i]?=some e/\aQ l id=if e.kind=3 then (cJ.zero,6) else (e.lab,0)))):=by
 unfold fQ at h1;unfold cV at h2;rw[List.take_length]at h1 h2;rcases h1 with ⟨rfl,h1⟩|⟨j,c,rfl,-,h3,h1⟩
 ·exact .inl ⟨rfl,by unfold aQ;rw[h1];rfl⟩
 ·refine .inr ⟨j,c,rfl,h3,?_⟩;rcases h2 with ⟨rfl,h2⟩|⟨i,e,rfl,-,h4,h2⟩
  ·exact .inl ⟨rfl,by unfold aQ;rw[h1,h2];rfl⟩
  ·exact .inr ⟨i,e,rfl,h4,by unfold aQ;rw[h1,h2];rfl⟩
end
structure ka (w:World) (g o:Nat) (t s q k ct ts tq lp lc lg lv:Int) (str:List UInt8) (A:Option Addr) (n cc:Nat):Prop where
 c0:w.cell? ⟨g,o,none⟩=some (B C t)
 c1:w.cell? ⟨g,o+1,none⟩=some (B C s)
 c2:w.cell? ⟨g,o+2,none⟩=some (B C q)
 c3:w.cell? ⟨g,o+3,none⟩=some (B C k)
 c4:w.cell? ⟨g,o+4,none⟩=some (.string (ba str))
 c5:w.cell? ⟨g,o+5,none⟩=some (B C ct)
 c6:w.cell? ⟨g,o+6,none⟩=some (.slice A n cc)
 c7:w.cell? ⟨g,o+7,none⟩=some (B C ts)
 c8:w.cell? ⟨g,o+8,none⟩=some (B C tq)
 c9:w.cell? ⟨g,o+9,none⟩=some (B C lp)
 c10:w.cell? ⟨g,o+10,none⟩=some (B C lc)
 c11:w.cell? ⟨g,o+11,none⟩=some (B C lg)
 c12:w.cell? ⟨g,o+12,none⟩=some (B C lv)
theorem ka.ext{w w':World}{g o:Nat}{t s q k ct ts tq lp lc lg lv:Int}{str:List UInt8}{A:Option Addr}{cc:Nat}(h:ka w g o t s q k ct ts tq lp lc lg lv str A n cc)(e:ab w w'):ka w' g o t s q k ct ts tq lp lc lg lv str A n cc :=
 ⟨e.cell h.c0,e.cell h.c1,e.cell h.c2,e.cell h.c3,e.cell h.c4,e.cell h.c5,e.cell h.c6,e.cell h.c7,e.cell h.c8,e.cell h.c9,e.cell h.c10,e.cell h.c11,e.cell h.c12⟩
theorem au.read{p b off c:Nat}{w wx:World}{l:List aj}(h:au p w (.slice (some ⟨b,off,none⟩) n c) l)(hx:XT p w wx)(hk:k<n) :
  ∃(t s q kd ct ts tq lp lc lg lv:Int) (str:List UInt8) (ch:List Int) (A:Option Addr) (m cc:Nat),Hid (l[k]?=some ⟨⟨t,s,q⟩,kd,str,ct,ch,⟨ts,tq⟩,⟨lp,lc,lg,lv⟩⟩) /\
   ka wx b (off+k*13) t s q kd ct ts tq lp lc lg lv str A m cc/\ak p wx (.slice A m cc) ch/\aj.wf ⟨⟨t,s,q⟩,kd,str,ct,ch,⟨ts,tq⟩,⟨lp,lc,lg,lv⟩⟩:=by
 obtain⟨cs,⟨⟨t,s,q⟩,kd,str,ct,ch,⟨ts,tq⟩,⟨lp,lc,lg,lv⟩⟩,-,hc,⟨u,rfl,hI,hw⟩,hx'⟩:=(h.xt (bR.stab p) hx).cell_ hk;obtain⟨A,m,cc,rfl,-⟩:=hI.open_;exact⟨t,s,q,kd,ct,ts,tq,lp,lc,lg,lv,str,ch,A,m,cc,hx',⟨hc 0 _ rfl,hc 1 _ rfl,hc 2 _ rfl,hc 3 _ rfl,hc 4 _ rfl,hc 5 _ rfl,hc 6 _ rfl,hc 7 _ rfl,hc 8 _ rfl,hc 9 _ rfl,hc 10 _ rfl,hc 11 _ rfl,hc 12 _ rfl⟩,hI,hw⟩
def Gd(l:List aj)(id:gT)(w:World)(e:Ending)(w':World):Prop :=
 ∃lp lc lg lv st:Int,e=.returned (.tuple #[.agg #[B C lp,B C lc,B C lg,B C lv],B C st])/\aQ l id=(⟨lp,lc,lg,lv⟩,st)/\ab w w'
end Go.Proofs.YtpaidaphacoblaaGreatDoor

