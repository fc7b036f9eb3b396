import Derived.Test.YtjgfgdcaocbfhaaGreatScG
import Derived.Test.YtjgfgdcaocbfhaaGreatH23
set_option linter.all false
set_option maxRecDepth 100000
set_option maxHeartbeats 0
namespace Go.Proofs.YtjgfgdcaocbfhaaGreat
open Go.RowKit
variable {j k p:Nat} {pg:List Int} {code var:Int}
def bC(pgs:List (List Int))(j:Nat):Nat:=((pgs.take j).map List.length).sum
theorem pe{pgs:List (List Int)}(h:pgs[j]?=some pg):bC pgs (j+1)=bC pgs j+pg.length:=by unfold bC;rw[ag h];simp
theorem iN{ns:List Int}:∀(pgs:List (List Int)) (nx:Nat),cT ns nx pgs→(∀j pg,pgs[j]?=some pg→kz ns (nx+bC pgs j) pg)∧nx+bC pgs pgs.length=ns.length:=by
 intro pgs;induction pgs with
 |nil=>intro nx h;exact⟨fun j pg hj=>by simp at hj,by have h':nx=ns.length:=h;simpa[bC] using h'⟩
 |cons p rest ih =>
  intro nx h;obtain⟨h1,h2⟩:=h;obtain⟨h3,h4⟩:=ih _ h2;refine⟨fun j pg hj=>?_,?_⟩
  ·cases j with
   |zero=>simp at hj;subst hj;simpa[bC] using h1
   |succ j =>
    have:=h3 j pg (by simpa using hj);have e:nx+p.length+bC rest j=nx+bC (p::rest) (j+1):=by unfold bC;simp;omega
    rw[e]at this;exact this
  ·have e:nx+p.length+bC rest rest.length=nx+bC (p::rest) (p::rest).length:=by unfold bC;simp;omega
   rw[e]at h4;exact h4
section
variable {ns:List Int} {pgs:List (List Int)}
theorem wt(pgs:List (List Int)){a b:Nat}(h:a≤b):bC pgs a≤bC pgs b:=by
 obtain⟨m,rfl⟩:∃m,b=a+m:=⟨b-a,by omega⟩
 unfold bC;rw[List.take_add,yN,List.sum_append];omega
theorem rR(hok:cT ns 0 pgs)(hp:pgs[j]?=some pg)(t:Nat):(t:Int)∈pg↔bC pgs j≤t∧t<bC pgs (j+1):=by
 have h:=(iN pgs 0 hok).1 j pg hp;rw[yV]at h;rw[pe hp];constructor
 ·intro hm;obtain⟨i,hi⟩:=yZ hm;have hil:=(zY.1 hi).1;have:=h.1.2 i _ hil hi;omega
 ·intro hb;have hil:t-bC pgs j<pg.length:=by omega
  have:=h.1.2 (t-bC pgs j) _ hil (zW hil);have e:pg[t-bC pgs j]=(t:Int):=by omega
  rw[←e];exact xX _
theorem pC(hok:cT ns 0 pgs)(hp:pgs[j]?=some pg)(t:Nat):dC pgs (t:Int)=(j:Int)↔(t:Int)∈pg:=by
 have hasI:∀(l:List Int) (x:Int),kO x l=true↔x∈l:=by
  intro l x;unfold kO;rw[xJ];constructor
  ·rintro⟨y,hy,he⟩;simp at he;subst he;exact hy
  ·intro h;exact⟨x,h,by simp⟩
 have hj:=(zY.1 hp).1;constructor
 ·intro h;unfold dC Cs at h;split at h
  ·rename_i ha
   have hlt:pgs.findIdx (kO (t:Int))<pgs.length:=by rw[List.findIdx_lt_length];obtain⟨l,hl,hh⟩:=xJ.1 ha;exact⟨l,hl,hh⟩
   have hw:=List.findIdx_getElem (w:=hlt);have e:pgs.findIdx (kO (t:Int))=j:=by omega
   have e2:pgs[pgs.findIdx (kO (t:Int))]=pg:=by have:=zY.1 hp;obtain⟨_,h2⟩:=this;rw[←h2];congr 1
   rw[e2]at hw;exact (hasI _ _).1 hw
  ·omega
 ·intro h;have hb:=(rR hok hp t).1 h;refine (uV (f:=kO (t:Int)) hp ((hasI _ _).2 h) (fun i y hi hy=>?_)).symm;cases e:kO (t:Int) y with
  |false=>rfl
  |true =>
   exfalso;have h1:=(rR hok hy t).1 ((hasI _ _).1 e);have:=wt pgs (show i+1≤j by omega);omega
end
section
variable {ps:List ai} {pgs:List (List Int)} {J:List Int→Int} {page:Int} {A:List Int} {rs:List (List Int)} {i at_:Nat} {G:List (Nat×Nat)} {cs:List Int}
theorem jq{J:List Int→Int}{n:Nat}{fs:List eh}{cs:List Int}(hj:j<n):(iT J n fs cs)[j]?=some (if aO fs cs (j:Int)=[] then -1 else J (aO fs cs (j:Int))):=by unfold iT;rw[zL,xH hj];rfl
end
theorem BT{s:aZ}{i:en}{x:dF}(h:bM s i x=true):dc i.sts x.cand=[]∧aK i.pgs x.cand (fA s x.var)=[]:=by
 unfold bM bW at h;by_cases h1:dc i.sts x.cand=[]
 ·rw[if_neg (by simp[h1])]at h;by_cases h2:aK i.pgs x.cand (fA s x.var)=[]
  ·exact⟨h1,h2⟩
  ·rw[if_neg h2]at h;split at h<;>simp at h
 ·rw[if_pos h1]at h;simp at h
theorem CQ{l:List Pg}{c:Int}{n g:Nat}(h:aK l c n=[])(hg:g<n):∃y,bT l c (g:Int)=some y:=by
 cases e:bT l c (g:Int) with
 |some y=>exact⟨y,rfl⟩
 |none =>
  have:(g:Int)∈aK l c n:=by unfold aK;exact wA.2 ⟨g,zB.2 hg,by rw[e];rfl⟩
  rw[h]at this;cases this
theorem ru{pgs:List (List Int)}{t:Nat}:∀J,t<bC pgs J→∃j,j<J∧bC pgs j≤t∧t<bC pgs (j+1)
 |0,h=>by unfold bC at h;simp at h
 |J+1,h=>by
  rcases zV t (bC pgs J) with h1|h1
  ·obtain⟨j,a,b,c⟩:=ru J h1;exact⟨j,by omega,b,c⟩
  ·exact⟨J,by omega,h1,h⟩
theorem Gc{ps:List ai}{pgs:List (List Int)}(h:eU code var ps pgs=true){t:Nat}(ht:t<ps.length):∃(j:Nat) (pg:List Int),pgs[j]?=some pg∧(t:Int)∈pg∧dC pgs (t:Int)=(j:Int):=by have hok:=(jg h).2.2.2.2;have hn:=(iN pgs 0 hok).2;rw[yV,zM]at hn;obtain⟨j,h1,h2,h3⟩:=ru pgs.length (by omega:t<bC pgs pgs.length);have hp:pgs[j]?=some pgs[j]:=zW h1;have hm:=(rR hok hp t).2 ⟨h2,h3⟩;exact⟨j,_,hp,hm,(pC hok hp t).2 hm⟩
section
variable {s:aZ} {i:en} {x:dF} {q:gE} {b:List (List Int)} {d f ld:Int}
theorem cD.bkv(h:cD s)(hq:s.pap[k]?=some q)(hb:s.bk[k]?=some b):d9 q.code q.var q.ps=true∧eU q.code q.var q.ps b=true:=by have:=h.pap k (zY.1 hq).1;unfold iA at this;rw[hq,hb]at this;simp only[yY]at this;exact⟨this.1,this.2.2.2⟩
theorem uJ(h:vk s i)(hx:aJ s.xp x.cand=some x)(hq:s.pap[x.var.toNat]?=some q)(hb:s.bk[x.var.toNat]?=some b)(hd:bM s i x=true)(hp:b[j]?=some pg) :
  ∃y,bT i.pgs x.cand (j:Int)=some y∧y.ch.length=(aA q.code q.var q.ps b (j:Int)).length∧y.ch.all bd=true:=by
 have hn:fA s x.var=b.length:=by unfold fA;rw[hb];rfl
 have hj:=(zY.1 hp).1;obtain⟨y,hy⟩:=CQ (BT hd).2 (by omega:j<fA s x.var);obtain⟨hm,hc,hg⟩:=yy hy;obtain⟨x',q',b',h1,h2,h3,-,-,h6,h7⟩:=h.pg_in hm;rw[hc,hx]at h1;injection h1 with h1;subst h1;rw[hq]at h2;injection h2 with h2;subst h2;rw[hb]at h3;injection h3 with h3;subst h3;rw[hg]at h6;exact⟨y,hy,h6,h7⟩
theorem Aw(hq:s.pap[x.var.toNat]?=some q)(hb:s.bk[x.var.toNat]?=some b){t:Nat}{r:ai}(hr:q.ps[t]?=some r) :
  (fC s i d f ld x)[t]?=some (if r.kind=2 then (match bT i.pgs x.cand (dC b (t:Int)) with
   |some pg=>(bQ q.code q.var q.ps b d f ld (dC b (t:Int)) pg.ch).getD t 0
   |none=>(bQ q.code q.var q.ps b d f ld (dC b (t:Int)) []).getD t 0) else -1):=by
 unfold fC;rw[hq,hb];simp only;rw[zL,xH (zY.1 hr).1];simp only[Option.map_some,hr];cases bT i.pgs x.cand (dC b (t:Int))<;>rfl
theorem ta(hq:s.pap[x.var.toNat]?=some q)(hb:s.bk[x.var.toNat]?=some b):(fC s i d f ld x).length=q.ps.length:=by unfold fC;rw[hq,hb];simp
theorem EQ{ps:List ai}{pgs:List (List Int)}(h:eU code var ps pgs=true)(hp:pgs[j]?=some pg){fl:eh}(hf:fl∈aA code var ps pgs (j:Int)):∃r,ps[fl.part.toNat]?=some r∧r.kind=2:=by rw[dE h hp]at hf;obtain⟨z,hz,hm⟩:=tO hf;obtain⟨h1,r,h2,h3,-⟩:=qB hm;exact⟨r,by rw[h1];exact h2,h3⟩
theorem sP(h:vk s i)(hx:aJ s.xp x.cand=some x)(hq:s.pap[x.var.toNat]?=some q)(hb:s.bk[x.var.toNat]?=some b)(hv:dp d f ld=true)(hp:b[j]?=some pg){y:Pg}(hy:bT i.pgs x.cand (j:Int)=some y)(hl:y.ch.length=(aA q.code q.var q.ps b (j:Int)).length)(ha:y.ch.all bd=true) :
  gh q.code q.var q.ps b d f ld (j:Int) y.ch=0∧(bQ q.code q.var q.ps b d f ld (j:Int) y.ch).length=q.ps.length ∧
   ∀t:Nat,(t:Int)∈pg→t<q.ps.length→∃v,(bQ q.code q.var q.ps b d f ld (j:Int) y.ch)[t]?=some v∧(fC s i d f ld x)[t]?=some v:=by
 have hok:=eV.1 h.chk;have hbk:=(hok.bkv hq hb).2;have hj:=(zY.1 hp).1;obtain⟨e1,e2⟩:=yx (d:=d) (f:=f) (ld:=ld) ⟨hv,hbk⟩ ⟨by omega,by omega⟩ hl ha;refine⟨e2.symm,by rw[←e1];unfold iT;simp,fun t ht htn=>?_⟩;have hr:q.ps[t]?=some q.ps[t]:=zW htn;have hpo:=(pC (jg hbk).2.2.2.2 hp t).2 ht;rw[Aw hq hb hr,hpo,hy];simp only;rw[←e1,jq htn];refine⟨_,rfl,?_⟩;by_cases hk:q.ps[t].kind=2
 ·rw[if_pos hk];congr 1
  unfold List.getD;rw[jq htn];rfl
 ·rw[if_neg hk,if_pos];refine eB fun fl hfl e=>?_;obtain⟨r,h1,h2⟩:=EQ hbk hp hfl;rw[e,yR,hr]at h1;injection h1 with h1;subst h1;exact hk h2
end
def fG(R:List Int)(k:Nat):List Int:=R.take k++List.replicate (R.length-k) (-1)
theorem xh(R:List Int):fG R 0=List.replicate R.length (-1):=by unfold fG;simp
theorem CR(R:List Int):fG R R.length=R:=by unfold fG;simp
theorem CB{R:List Int}(h:k≤R.length):(fG R k).length=R.length:=by unfold fG;simp;omega
theorem C6{R:List Int}{v:Int}(h:R[k]?=some v):(fG R k).set k v=fG R (k+1):=by
 have hk:=(zY.1 h).1;unfold fG;refine wT fun j=>?_;rw[List.getElem?_set];by_cases e:k=j
 ·subst e;rw[if_pos rfl,if_pos (by simp;omega),zH (by simp;omega),yB,if_pos (by omega),h]
 ·rw[if_neg e];rcases zV j k with h1|h1
  ·rw[zH (by simp;omega),zH (by simp;omega),yB,yB,if_pos h1,if_pos (by omega)]
  ·rw[yT (by simp;omega),yT (by simp;omega),List.getElem?_replicate,List.getElem?_replicate];simp only[zF];congr 1
   exact propext ⟨fun _=>by omega,fun _=>by omega⟩
theorem FU{ps:List ai}{pgs:List (List Int)}(h:eU code var ps pgs=true){m:Nat}{z:Int}(hp:pgs[j]?=some pg)(hz:pg[m]?=some z):z=((bC pgs j+m:Nat):Int)∧bC pgs j+m<ps.length:=by have hok:=(jg h).2.2.2.2;have h1:=(iN pgs 0 hok).1 j pg hp;rw[yV]at h1;have hm:=(zY.1 hz).1;have h2:=h1.1.1;rw[zM]at h2;exact⟨h1.1.2 m z hm hz,by omega⟩
theorem ow{ps:List ai}{pgs:List (List Int)}(h:eU code var ps pgs=true):bC pgs pgs.length=ps.length:=by have:=(iN pgs 0 (jg h).2.2.2.2).2;rwa [yV,zM]at this
theorem oM(pgs:List (List Int)):bC pgs 0=0:=rfl
open _root_.Go.Proofs.Tryz
theorem kJ{ps:List ai}{pgs:List (List Int)}(h:eU code var ps pgs=true):1≤pgs.length∧pgs.length≤12:=by
 refine⟨?_,(jg h).2.1⟩;have h1:=ow h;have h2:1≤ps.length:=by have:=(jg h).1;unfold d9 at this;simp only[yY,decide_eq_true_eq]at this;omega
 rcases pgs with _|⟨a,l⟩
 ·have:=oM ([]:List (List Int));simp only[List.length_nil]at h1;omega
 ·simp
theorem CS{w:World}{v:Value}{l:List aY}(h:eF p w v l){x:aY}(hx:x∈l):x.wf:=by
 obtain⟨A,n,c,rfl,-,-,-,HL⟩:=h.open_;obtain⟨k,hk⟩:=yZ hx;have hkn:k<n:=by have:=(zY.1 hk).1;have:=HL.out;omega
 obtain⟨b,off,_,_,rfl,-⟩:=h.at_ hkn;obtain⟨cs,y,-,-,⟨-,hw⟩,HX⟩:=h.cell_ hkn;have:=HX.out;rw[hk]at this;injection this with this;subst this
 exact hw
theorem DM{w:World}{v:Value}{l:List aY}(h:eF p w v l)(c:Int):∀x∈dc l c,aC x:=by intro x hx;unfold dc at hx;rw[lJ]at hx;obtain⟨y,hy,rfl⟩:=zJ.1 hx;exact (CS h (xY.1 hy).1).2.2.2.2.1
theorem uG(l:List aY)(c:Int):(dc l c).length≤l.length:=by unfold dc;exact yL (sR _ _) (by rw[zM];exact xC _ _)
theorem eZ(v vi:Value)(s:aZ)(t:en)(xa xb xd:Int)(w:World)(hp:p<w.heap.size)(hs:aN p w v s)(ht:bN p w vi t)(hok:cD s)(hx:(⟨xa,xb,xd⟩:dF)∈s.xp)(hn1:t.sts.length≤1000) :
  Calls prog 36 #[v,vi,.agg #[.int .i64 xa,.int .i64 xb,.int .i64 xd]] w (EP w (bW s t ⟨xa,xb,xd⟩)):=by
 obtain⟨i0,hi0,hz0,hz1,hz2⟩:=info_parts Tryz.infoI;have HT0:=zZ ht;obtain⟨vP,vB,vX,rfl,hP,hB,hX,hnum⟩:=hs;obtain⟨AP,nP,cP,rfl,-⟩:=hP.open_;obtain⟨AB,nB,cB,rfl,hnB,hcB,hmB,HLB⟩:=hB.open_;obtain⟨AX,nX,cX,rfl,-⟩:=hX.open_;obtain⟨vS,vG,rfl,hS,hG⟩:=ht;have HCI:=zZ (DM hS xa);obtain⟨AS,nS,cS,rfl,-⟩:=hS.open_;obtain⟨AG,nG,cG,rfl,-⟩:=hG.open_;have hxb:=fw hok hx;simp only at hxb;obtain⟨xb1,xb2,xb3,xb4,xb5,xb6⟩:=hxb;obtain⟨pq,bk,hpq,hbk,hbb,-,-,-⟩:=gQ hok xb3 xb4;have hbn:=kJ hbb;have hnp:fA s xd=bk.length:=by unfold fA;rw[hbk];rfl
 have hbks:=hok.bks;obtain⟨r,rfl⟩:=zG xb3;rw[yR]at hpq hbk;have hrB:r<nB:=by have:=HLB.out;omega
 obtain⟨bB,oB,_,_,rfl,-⟩:=hB.at_ hrB;have HB0:=zZ hB;have HBK:=zZ hbk;have HNP:=zZ hnp;have HN:Bx (t.sts.length≤1000∧1≤bk.length∧bk.length≤1000):=⟨⟨hn1,by omega,by omega⟩⟩
 clear hP hB hX hnum hS hG hok hx hpq hbk hbb hbn hnp hbks hn1 HLB;obtain⟨w1,hw1⟩:=nm (((((w.alloc (.cells #[.int .i64 s.num,.slice AP nP cP,.slice (some ⟨bB,oB,none⟩) nB cB,.slice AX nX cX] 27)).alloc (.cells #[.slice AS nS cS,.slice AG nG cG] 31)).alloc (.cells #[.int .i64 xa,.int .i64 xb,.int .i64 (r:Int)] 83)).alloc (.cells #[.int .i64 0,.int .i64 0,.slice none 0 0] 41)):World);have HF0:Bx (ae w w1 [(w.heap.size,#[.int .i64 s.num,.slice AP nP cP,.slice (some ⟨bB,oB,none⟩) nB cB,.slice AX nX cX],27),(w.heap.size+1,#[.slice AS nS cS,.slice AG nG cG],31),(w.heap.size+1+1,#[.int .i64 xa,.int .i64 xb,.int .i64 (r:Int)],83),(w.heap.size+1+1+1,#[.int .i64 0,.int .i64 0,.slice none 0 0],41)]):=⟨by rw[hw1];exact ((((ae.start w).push _ _ rfl).push _ _ (by simp)).push _ _ (by simp)).push _ _ (by simp)⟩
 have hs1:w1.heap.size=w.heap.size+1+1+1+1:=by rw[hw1];simp
 go_enter func36,ntmps36
 go_upto_region 1 with (fail)
 rw[←hw1];clear hw1;have x0:=(HF0.out.at_ 2 rfl).c 0 rfl;go_upto_region 2 with (fail)
 have HF:Bx (ae w (w1.alloc (.cells #[.int .i64 xa,.int .i64 1,.slice none 0 0] 41)) [(w.heap.size,#[.int .i64 s.num,.slice AP nP cP,.slice (some ⟨bB,oB,none⟩) nB cB,.slice AX nX cX],27),(w.heap.size+1,#[.slice AS nS cS,.slice AG nG cG],31),(w.heap.size+1+1,#[.int .i64 xa,.int .i64 xb,.int .i64 (r:Int)],83),(w.heap.size+1+1+1,#[.int .i64 0,.int .i64 0,.slice none 0 0],41),(w.heap.size+1+1+1+1,#[.int .i64 xa,.int .i64 1,.slice none 0 0],41)]):=⟨HF0.out.push _ _ hs1⟩
 obtain⟨w2,hw2⟩:=nm ((w1.alloc (.cells #[.int .i64 xa,.int .i64 1,.slice none 0 0] 41)):World);rw[←hw2]at HF;rw[←hw2];clear hw2 HF0 hs1 x0;have i0':=(HF.out.at_ 1 rfl).c 0 rfl;have i1':=(HF.out.at_ 1 rfl).c 1 rfl;have x0:=(HF.out.at_ 2 rfl).c 0 rfl;go_wp2_with fail;refine (uq _ t xa _ (p:=p) (zP hp HF.out.xt.size) (HT0.out.ext HF.out.xt) HN.out.1).mono ?_;rintro e w3 ⟨⟨A2,n2,c2,rfl,hv2,hl2⟩,hx3⟩;have HF3:=bx (HF.out.ext hx3);have HV3:Bx (av w3 w.heap.size (.slice A2 n2 c2) (dc t.sts xa)):=⟨bo hv2 HF.out.xt.size,HCI.out,by have:=uG t.sts xa;have:=HN.out.1;omega⟩
 have HN2:=zZ hl2;have hn2b:n2≤1000:=by have:=uG t.sts xa;have:=HN.out.1;omega
 clear hv2 HF hx3 i0' i1' x0 hl2;obtain⟨o0,o1,o2⟩:=(HF3.out.at_ 4 rfl).p3 rfl;have g0:=(HF3.out.at_ 4 rfl).froz;have g1:=g0;have g2:=g0;go_upto_region 3 with (fail)
 have hF4:=HF3.out.set 4 rfl 2 (.slice A2 n2 c2);have hV4:=HV3.out.far (HF3.out.at_ 4 rfl) (by decide) 2 (.slice A2 n2 c2);obtain⟨w4,hw4⟩:=nm ((w3.setCell ⟨w.heap.size+1+1+1+1,2,none⟩ (.slice A2 n2 c2)):World);rw[←hw4]at hF4 hV4;rw[←hw4];have HF4:Bx (ae w w4 [(w.heap.size,#[.int .i64 s.num,.slice AP nP cP,.slice (some ⟨bB,oB,none⟩) nB cB,.slice AX nX cX],27),(w.heap.size+1,#[.slice AS nS cS,.slice AG nG cG],31),(w.heap.size+1+1,#[.int .i64 xa,.int .i64 xb,.int .i64 (r:Int)],83),(w.heap.size+1+1+1,#[.int .i64 0,.int .i64 0,.slice none 0 0],41),(w.heap.size+1+1+1+1,#[.int .i64 xa,.int .i64 1,.slice A2 n2 c2],41)]):=⟨hF4⟩
 have HV4:=zZ hV4;clear hw4 hF4 hV4 HF3 HV3 o0 o1 o2 g0 g1 g2;obtain⟨o0,o1,o2⟩:=(HF4.out.at_ 4 rfl).p3 rfl;have g0:=(HF4.out.at_ 4 rfl).froz;have g1:=g0;have g2:=g0;have x0:=(HF4.out.at_ 2 rfl).c 0 rfl;have x2:=(HF4.out.at_ 2 rfl).c 2 rfl;have s2:=(HF4.out.at_ 0 rfl).c 2 rfl;by_cases h0:0<n2
 ·have HE:=zZ (sW (s:=s) (i:=t) (x:=⟨xa,xb,(r:Int)⟩) (show dc t.sts xa≠[] by intro e;have:=HN2.out;rw[e]at this;simp at this;omega));go_upto_region 5 with (fail)
  have hF5:=HF4.out.set 4 rfl 1 (.int .i64 3);have hV5:=HV4.out.far (HF4.out.at_ 4 rfl) (by decide) 1 (.int .i64 3);obtain⟨w5,hw5⟩:=nm ((w4.setCell ⟨w.heap.size+1+1+1+1,1,none⟩ (.int .i64 3)):World);rw[←hw5]at hF5 hV5;rw[←hw5];have HF5:Bx (ae w w5 [(w.heap.size,#[.int .i64 s.num,.slice AP nP cP,.slice (some ⟨bB,oB,none⟩) nB cB,.slice AX nX cX],27),(w.heap.size+1,#[.slice AS nS cS,.slice AG nG cG],31),(w.heap.size+1+1,#[.int .i64 xa,.int .i64 xb,.int .i64 (r:Int)],83),(w.heap.size+1+1+1,#[.int .i64 0,.int .i64 0,.slice none 0 0],41),(w.heap.size+1+1+1+1,#[.int .i64 xa,.int .i64 3,.slice A2 n2 c2],41)]):=⟨hF5⟩
  have HV5:=zZ hV5;clear hw5 hF5 hV5 HF4 HV4 o0 o1 o2 g0 g1 g2 x0 x2 s2;obtain⟨o0,o1,o2⟩:=(HF5.out.at_ 4 rfl).p3 rfl;obtain⟨r0,r1,r2⟩:=(HF5.out.at_ 3 rfl).p3 rfl;have f0:=(HF5.out.at_ 3 rfl).froz;have f1:=f0;have f2:=f0;go_wp2_with fail;have h9:=HF5.out.setAll 3 rfl [.int .i64 xa,.int .i64 3,.slice A2 n2 c2] rfl;have h8:=HV5.out.sets (HF5.out.at_ 3 rfl) (by decide) 0 [.int .i64 xa,.int .i64 3,.slice A2 n2 c2];refine bodyPost_ret (v:=.agg #[.int .i64 xa,.int .i64 3,.slice A2 n2 c2]) (by simp[results,results36,go_sem,r0,r1,r2]) rfl ⟨⟨.slice A2 n2 c2,by rw[HE.out],by rw[HE.out];exact h8⟩,h9.xt⟩
 obtain rfl:n2=0:=by omega
 have HCO:=zZ (sn.2 HN2.out);obtain⟨Ab,nb,cb,b0,-,HNB⟩:=dQ HB0.out HBK.out HF4.out.xt.xt;have hnb:nb≤1000∧1≤nb:=by have:=HNB.out;have:=HN.out.2;omega
 obtain⟨hnb1,hnb2⟩:=hnb;have HV5:Bx (av w4 w.heap.size (.slice A2 0 c2) []):=⟨by have:=HV4.out;rwa [HCO.out]at this⟩
 clear h0 hn2b HV4;go_wp2_with fail;clear b0 x0 x2 s2 o0 o1 o2 g0 g1 g2;go_loopw [9] (fun s9 wr=>∃(k:Nat) (st:Int) (vo:Value),s9=.int .i64 k∧k≤nb∧Bx (ae w wr [(w.heap.size,#[.int .i64 s.num,.slice AP nP cP,.slice (some ⟨bB,oB,none⟩) nB cB,.slice AX nX cX],27),(w.heap.size+1,#[.slice AS nS cS,.slice AG nG cG],31),(w.heap.size+1+1,#[.int .i64 xa,.int .i64 xb,.int .i64 (r:Int)],83),(w.heap.size+1+1+1,#[.int .i64 0,.int .i64 0,.slice none 0 0],41),(w.heap.size+1+1+1+1,#[.int .i64 xa,.int .i64 st,vo],41)]∧av wr w.heap.size vo (aK t.pgs xa k)∧st=(if aK t.pgs xa k=[] then 1 else 2))) (fun k _=>nb-(intOf k).toNat)
 case atStart=>exact⟨0,1,.slice A2 0 c2,rfl,by omega,⟨⟨HF4.out,by simpa[aK] using HV5.out,by simp[aK]⟩⟩⟩
 case round =>
  obtain⟨k,st,vo,rfl,hk,HR⟩:=hrel;have HFr:Bx (ae w wr [(w.heap.size,#[.int .i64 s.num,.slice AP nP cP,.slice (some ⟨bB,oB,none⟩) nB cB,.slice AX nX cX],27),(w.heap.size+1,#[.slice AS nS cS,.slice AG nG cG],31),(w.heap.size+1+1,#[.int .i64 xa,.int .i64 xb,.int .i64 (r:Int)],83),(w.heap.size+1+1+1,#[.int .i64 0,.int .i64 0,.slice none 0 0],41),(w.heap.size+1+1+1+1,#[.int .i64 xa,.int .i64 st,vo],41)]):=⟨HR.out.1⟩
  have HO:Bx (av wr w.heap.size vo (aK t.pgs xa k)):=⟨HR.out.2.1⟩
  have HST:Bx (st=(if aK t.pgs xa k=[] then 1 else 2)):=⟨HR.out.2.2⟩
  obtain⟨Ao,co,hu⟩:=HO.out.form;obtain⟨no,hno⟩:=nm ((aK t.pgs xa k).length);have hnok:no≤k:=by rw[hno];exact pu _ _ _
  have HNO:=zZ hno;rw[←hno]at hu;subst hu;clear HR HF4 HV5 hno;by_cases hkn:k<nb
  ·have i0':=(HFr.out.at_ 1 rfl).c 0 rfl;have i1':=(HFr.out.at_ 1 rfl).c 1 rfl;have x0:=(HFr.out.at_ 2 rfl).c 0 rfl;go_upto_region 11 with (go_at_call 42;refine (jD _ t xa (k:Int) _ (p:=p) (HT0.out.ext HFr.out.xt)).mono ?_;rintro e w3 ⟨yc,yg,yt,ys,yq,ych,yA,yn,ycc,rfl,-,-,-,hx3⟩)
   obtain⟨w4,hw4⟩:=nm ((w3.alloc (.cells #[.int .i64 yc,.int .i64 yg,.int .i64 yt,.slice yA yn ycc,.int .i64 ys,.int .i64 yq] 77)):World);have hx4:ab wr w4:=by rw[hw4];exact hx3.alloc _
   rw[←hw4];have HF4:=bx (HFr.out.ext hx4);have HO4:=bx (HO.out.ext hx4);clear hw4 hx4 hx3 HFr HO i0' i1' x0;obtain⟨o0,o1,o2⟩:=(HF4.out.at_ 4 rfl).p3 rfl;have g0:=(HF4.out.at_ 4 rfl).froz;have g1:=g0;have g2:=g0;cases hpf:bT t.pgs xa (k:Int) with
   |some y =>
    have HM:=zZ (qI hpf);clear hpf;go_wp2_with fail;go_roundw
    case rel=>exact⟨k+1,st,.slice Ao no co,by go_num,by omega,⟨⟨HF4.out,by rw[HM.out];exact HO4.out,by rw[HM.out];exact HST.out⟩⟩⟩
    case measure=>simp[intOf];omega
   |none =>
    have HM:=zZ (rf hpf);clear hpf;go_upto_region 13 with (at_builtin;refine al _ rfl (.tmp 50) (.tmp 52) 22 rfl w.heap.size 3 i0 _ 8 underlying22 hi0 hz0 hz1 hz2 rfl (.slice Ao no co) _ _ rfl (ac HO4.out.1 ((zE _).alloc _)) _ _ rfl (by simp;rfl) rfl (by have:=HNO.out;omega) (by omega) (by have:=HF4.out.xt.size;simp;omega) ?_;intro v5 w5 hown5 hg5;obtain⟨A5,c5,hv5⟩:=pY hown5;obtain⟨n5,hn5⟩:=nm ((aK t.pgs xa k).length+1);rw[←hn5]at hv5 hown5;subst hv5;have HN5:=zZ hn5;clear hn5;have HF5:=zZ ((HF4.out.ext ((zE _).alloc _)).grownT (ac HO4.out.1 ((zE _).alloc _)) hg5 (zX _) rfl);have HO5:=zZ hown5;clear hown5 hg5 o0 o1 o2 g0 g1 g2;have o0:=(HF5.out.at_ 4 rfl).c 0 rfl;have o1:=(HF5.out.at_ 4 rfl).c 1 rfl;have o2:=(HF5.out.at_ 4 rfl).c 2 rfl;have g0:=(HF5.out.at_ 4 rfl).froz 0;have g1:=(HF5.out.at_ 4 rfl).froz 1;have g2:=(HF5.out.at_ 4 rfl).froz 2)
    have HI5:Bx (av w5 w.heap.size (.slice A5 n5 c5) (aK t.pgs xa (k+1))):=⟨by
     rw[HM.out];have h5:=HO5.out;rw[HN5.out]at h5⊢;refine⟨by simpa using h5,fun z hz=>?_,by simp;have:=HNO.out;omega⟩;rcases zC.1 hz with hz|hz
     ·exact HO4.out.2.1 z hz
     ·obtain rfl:z=(k:Int):=by simpa using hz
      exact⟨by omega,by omega⟩⟩
    have hF6:=HF5.out.set 4 rfl 2 (.slice A5 n5 c5);have hV6:=HI5.out.far (HF5.out.at_ 4 rfl) (by decide) 2 (.slice A5 n5 c5);obtain⟨w6,hw6⟩:=nm ((w5.setCell ⟨w.heap.size+1+1+1+1,2,none⟩ (.slice A5 n5 c5)):World);rw[←hw6]at hF6 hV6;rw[←hw6];have HF6:Bx (ae w w6 [(w.heap.size,#[.int .i64 s.num,.slice AP nP cP,.slice (some ⟨bB,oB,none⟩) nB cB,.slice AX nX cX],27),(w.heap.size+1,#[.slice AS nS cS,.slice AG nG cG],31),(w.heap.size+1+1,#[.int .i64 xa,.int .i64 xb,.int .i64 (r:Int)],83),(w.heap.size+1+1+1,#[.int .i64 0,.int .i64 0,.slice none 0 0],41),(w.heap.size+1+1+1+1,#[.int .i64 xa,.int .i64 st,.slice A5 n5 c5],41)]):=⟨hF6⟩
    have HV6:=zZ hV6;clear hw6 hF6 hV6 HF5 HI5 HO5 HF4 HO4 o0 o1 o2 g0 g1 g2;obtain⟨o0,o1,o2⟩:=(HF6.out.at_ 4 rfl).p3 rfl;have g0:=(HF6.out.at_ 4 rfl).froz;have g1:=g0;have g2:=g0;go_wp2_with fail;have hF7:=HF6.out.set 4 rfl 1 (.int .i64 2);have hV7:=HV6.out.far (HF6.out.at_ 4 rfl) (by decide) 1 (.int .i64 2);go_roundw
    case rel=>exact⟨k+1,2,.slice A5 n5 c5,by go_num,by omega,⟨⟨hF7,hV7,by rw[HM.out];simp⟩⟩⟩
    case measure=>simp[intOf];omega
  ·obtain rfl:k=nb:=by omega
   have HNK:=zZ (show fA s (r:Int)=k by rw[HNP.out,HNB.out]);have x0:=(HFr.out.at_ 2 rfl).c 0 rfl;obtain⟨r0,r1,r2⟩:=(HFr.out.at_ 3 rfl).p3 rfl;have f0:=(HFr.out.at_ 3 rfl).froz;have f1:=f0;have f2:=f0;obtain⟨o0,o1,o2⟩:=(HFr.out.at_ 4 rfl).p3 rfl;by_cases h2:no=k
   ·have HE:=zZ (DQ (s:=s) (x:=⟨xa,xb,(r:Int)⟩) HCO.out (by simp only[HNK.out];intro e;have:=HNO.out;rw[e]at this;simp at this;omega) (by simp only[HNK.out];rw[←HNO.out,h2]));subst h2;have hnok:((no:Int)==(no:Int))=true:=by simp
    go_wp2_with fail;have h9:=HFr.out.setAll 3 rfl [.int .i64 xa,.int .i64 4,.slice none 0 0] rfl;refine bodyPost_ret (v:=.agg #[.int .i64 xa,.int .i64 4,.slice none 0 0]) (by simp[results,results36,go_sem,r0,r1,r2]) rfl ⟨⟨.slice none 0 0,by rw[HE.out],by rw[HE.out];exact av.nil _ _⟩,h9.xt⟩
   ·have HE:=zZ (show bW s t ⟨xa,xb,(r:Int)⟩=⟨xa,st,aK t.pgs xa k⟩ by
     rw[HST.out];by_cases h1:aK t.pgs xa k=[]
     ·rw[if_pos h1,tm (s:=s) (x:=⟨xa,xb,(r:Int)⟩) HCO.out (by simp only[HNK.out];exact h1),h1]
     ·rw[if_neg h1,tF (s:=s) (x:=⟨xa,xb,(r:Int)⟩) HCO.out (by simp only[HNK.out];exact h1) (by simp only[HNK.out];rw[←HNO.out];exact h2)];simp only[HNK.out])
    have hnok2:((no:Int)==(k:Int))=false:=by simp;omega
    go_wp2_with fail;have h9:=HFr.out.setAll 3 rfl [.int .i64 xa,.int .i64 st,.slice Ao no co] rfl;have h8:=HO.out.sets (HFr.out.at_ 3 rfl) (by decide) 0 [.int .i64 xa,.int .i64 st,.slice Ao no co];refine bodyPost_ret (v:=.agg #[.int .i64 xa,.int .i64 st,.slice Ao no co]) (by simp[results,results36,go_sem,r0,r1,r2]) rfl ⟨⟨.slice Ao no co,by rw[HE.out],by rw[HE.out];exact h8⟩,h9.xt⟩
end Go.Proofs.YtjgfgdcaocbfhaaGreat

