import Derived.Test.YtpaidaphacoblaaGreatDoorK10
import Derived.Test.YtpaidaphacoblaaGreatDoorK5
import Derived.Lib.SliceRun
set_option linter.all false
set_option maxRecDepth 100000
set_option maxHeartbeats 0
namespace Go.Proofs.YtpaidaphacoblaaGreatDoor
open Go.Value renaming int→B
open Go.IntKind renaming i64→C
namespace F
def uA(g rest:List F)(c:F):List F:=List.zipWith (fun r h=>r+(c+rest.headD 0)*h) (rest.tail++[0]) g
theorem FK(x f:F):∀(a b:List F),a.length=b.length->ev x (List.zipWith (fun r h=>r+f*h) a b)=ev x a+f*ev x b
 |[],[],_=>by simp[ev,eB,add_zero]
 |r::a,h::b,hl=>by
  have hl':a.length=b.length:=by simpa using hl
  simp only[List.zipWith_cons_cons,ev,FK x f a b hl',List.length_zipWith,hl',Nat.min_self,add_mul,pY];ac_rfl
theorem AT{g rest:List F}(c:F)(h1:rest.length=6)(h2:g.length=6):(uA g rest c).length=6:=by unfold uA;simp[h1,h2]
theorem CT{g rest:List F}{x:F}(c:F)(h1:rest.length=6)(h2:g.length=6)(hg:ev x g=pwr x 6):ev x (uA g rest c)=ev x rest*x+c*pwr x 6:=by
 match rest,h1 with
 |r0::t,h1 =>
  have ht:t.length=5:=by simpa using h1
  unfold uA;simp only[List.tail_cons,List.headD_cons];rw[FK x _ _ _ (by simp[ht,h2]),hg,ev_app];simp only[List.length_singleton,ev,List.length_nil,zero_mul,add_zero,ht,pwr_one,add_mul];have:pwr x 6=pwr x 5*x:=rfl;rw[this];rw[show ev x t*x+(c*(pwr x 5*x)+r0*(pwr x 5*x))=r0*pwr x 5*x+ev x t*x+c*(pwr x 5*x) by ac_rfl]
def encRest(g data:List F):List F:=data.foldl (uA g) (List.replicate 6 0)
theorem Nk{g:List F}{x:F}(h2:g.length=6)(hg:ev x g=pwr x 6):∀(d rest:List F),rest.length=6->(d.foldl (uA g) rest).length=6/\ev x (d.foldl (uA g) rest)=ev x rest*pwr x d.length+ev x d*pwr x 6
 |[],rest,h=>⟨h,by show ev x rest=ev x rest*1+0*_;rw[mul_one,zero_mul,add_zero]⟩
 |c::d,rest,h=>by
  obtain⟨h3,h4⟩:=Nk h2 hg d (uA g rest c) (AT c h h2);refine⟨h3,?_⟩;rw[List.foldl_cons,h4,CT c h h2 hg];simp only[ev,xQ,pwr,add_mul];ac_rfl
def genL:List F:=[mk 17 (by decide),mk 26 (by decide),mk 30 (by decide),mk 27 (by decide),mk 30 (by decide),mk 24 (by decide)]
theorem OX:∀j:Fin 6,ev (gp (j.val+1)) genL=pwr (gp (j.val+1)) 6:=by decide +kernel
theorem enc_code(d:List F):Code (d++encRest genL d)/\(encRest genL d).length=6:=by
 have h:∀j,1<=j->j<=6->ev (gp j) genL=pwr (gp j) 6:=fun j h1 h2=>by have:=OX ⟨j-1,by omega⟩;simpa[Nat.sub_add_cancel h1] using this
 refine⟨fun j h1 h2=>?_,(Nk rfl (h 1 (by omega) (by omega)) d _ (by simp)).1⟩;obtain⟨h3,h4⟩:=Nk (g:=genL) (x:=gp j) rfl (h j h1 h2) d (List.replicate 6 0) (by simp);rw[ev_app];unfold encRest;rw[h3,h4,JH,zero_mul,zero_add,add_self]
theorem Hu(x v:F):∀(w:List F) (i:Nat),i<w.length->ev x (w.set i v)=ev x w+(w.getD i 0+v)*pwr x (w.length-1-i)
 |[],i,h=>by simp at h
 |c::w,0,h=>by
  simp only[M5,ev,List.getD_cons_zero,xQ,Nat.add_sub_cancel,Nat.sub_zero,add_mul];rw[show c*pwr x w.length+ev x w+(c*pwr x w.length+v*pwr x w.length)=(c*pwr x w.length+c*pwr x w.length)+(v*pwr x w.length+ev x w) by ac_rfl,add_self,zero_add]
 |c::w,i+1,h=>by
  have hi:i<w.length:=by simpa using h
  simp only[List.set_cons_succ,ev,List.getD_cons_succ,xQ,yF,Hu x v w i hi];rw[show w.length+1-1-(i+1)=w.length-1-i by omega];ac_rfl
theorem Iu(a b:List (F×F))(j:Nat):pL (a++b) j=pL a j+pL b j:=by
 induction a with
 |nil=>simp[pL,zero_add]
 |cons p a ih=>obtain⟨c,x⟩:=p;simp only[List.cons_append,pL,ih];ac_rfl
theorem EW(f:Nat->F×F)(j u:Nat):pL ((List.range u).map f) j=hY (fun c=>(f c).1*pwr (f c).2 j) u:=by
 induction u with
 |zero=>rfl
 |succ u ih =>
  rw[xP,yG,Iu,ih];show _+(((f u).1*pwr (f u).2 j)+0)=_+_
  rw[add_zero]
def addAt(w:List F):List Nat->List F->List F
 |p::ps,x::xs=>addAt (w.set p (w.getD p 0+x)) ps xs
 |_,_=>w
theorem addAt_len:∀(ps:List Nat) (xs w:List F),(addAt w ps xs).length=w.length
 |p::ps,x::xs,w=>by simp[addAt,addAt_len ps xs]
 |[],_,w=>by simp[addAt]
 |_::_,[],w=>by simp[addAt]
theorem addAt_off{i:Nat}:∀(ps:List Nat) (xs w:List F),i ∉ ps->(addAt w ps xs)[i]?=w[i]?
 |p::ps,x::xs,w,h=>by
  simp only[yM,not_or]at h;simp only[addAt];rw[addAt_off ps xs _ h.2,wW (Ne.symm h.1)]
 |[],_,w,_=>by simp[addAt]
 |_::_,[],w,_=>by simp[addAt]
theorem yl(j:Nat):∀(ps:List Nat) (xs w:List F),(∀p∈ps,p<w.length)->ps.length=xs.length->ev (gp j) (addAt w ps xs)=ev (gp j) w+pL (xs.zip (ps.map fun p=>gp (w.length-1-p))) j
 |p::ps,x::xs,w,h,hl=>by
  have hp:=h p vM;simp only[addAt];rw[yl j ps xs _ (fun q hq=>by rw[yF];exact h q (vN _ hq)) (by simpa using hl),Hu _ _ _ _ hp,yF];simp only[wK,List.zip_cons_cons,pL,<-add_assoc,add_self,zero_add,pwr_gp];rw[wM j (w.length-1-p)]
 |[],[],w,_,_=>by simp[addAt,pL,add_zero]
def Off(w c:List F)(ps:List Nat):Prop:=c.length=w.length/\∀i,i ∉ ps->c[i]?=w[i]?
theorem Off.addAt(w:List F)(ps:List Nat)(xs:List F):Off w (addAt w ps xs) ps:=⟨addAt_len ps xs w,fun _ hi=>addAt_off ps xs w hi⟩
theorem getD_eq{w:List F}{i:Nat}(h:i<w.length):w[i]?=some (w.getD i 0):=by rw[xU,zV h];rfl
theorem GG:∀(ps:List Nat) (w c:List F),Off w c ps->ps.Nodup->(∀p∈ps,p<w.length)->c=F.addAt w ps (ps.map fun p=>w.getD p 0+c.getD p 0)
 |[],w,c,h,_,_=>by
  simp only[List.map_nil,F.addAt];exact xW fun i=>h.2 i (by simp)
 |p::ps,w,c,h,hn,hlt=>by
  have hp:=hlt p vM;rw[uQ]at hn;simp only[wK,F.addAt,Dl];have ho:Off (w.set p (c.getD p 0)) c ps:=by
   refine⟨by rw[yF];exact h.1,fun i hi=>?_⟩;by_cases e:p=i
   ·subst e;rw[wU hp];exact getD_eq (by rw[h.1];exact hp)
   ·rw[wW e];exact h.2 i (fun hm=>by rcases yM.1 hm with e2|e2;exact e e2.symm;exact hi e2)
  have:=GG ps _ c ho hn.2 (fun q hq=>by rw[yF];exact hlt q (vN _ hq));refine this.trans (congrArg (F.addAt _ ps) (vK fun q hq=>?_));have hne:p≠q:=fun e=>hn.1 (e▸hq);congr 1
  rw[xU,wW hne,xU]
def sysM(w:List F)(ps:List Nat):Nat->Nat->F:=fun r c=>if c<ps.length then gp ((r+1)*(w.length-1-ps.getD c 0)) else ev (gp (r+1)) w
theorem vz{w:List F}{ps:List Nat}(r:Nat)(X:Nat->F):xm (sysM w ps) r X (ps.length+1)=pL ((List.range ps.length).map fun c=>(X c,gp (w.length-1-ps.getD c 0))) (r+1)+ev (gp (r+1)) w*X ps.length:=by
 show hY _ ps.length+_=_
 rw[EW];congr 1
 ·refine jX fun c hc=>?_;simp only[sysM,if_pos hc,pwr_gp];rw[mul_comm]
 ·simp only[sysM,Nat.lt_irrefl,if_false]
theorem sys_ind{w:List F}{ps:List Nat}(hn:w.length<=31)(hd:ps.Nodup)(hlt:∀p∈ps,p<w.length)(h6:ps.length<=6)(X:Nat->F)(hs:Sol (sysM w ps) X (ps.length+1))(h0:X ps.length=0):∀c,c<ps.length->X c=0:=by
 intro c hc;have hm:((List.range ps.length).map fun c=>(X c,gp (w.length-1-ps.getD c 0))).map Prod.snd=ps.map fun p=>gp (w.length-1-p):=by
  apply xW;intro i;rcases zU i ps.length with hi|hi
  ·simp[wJ hi,zV hi]
  ·rw[zC (by simpa using hi),zC (by simpa using hi)]
 refine zh ps.length ((List.range ps.length).map fun c=>(X c,gp (w.length-1-ps.getD c 0))) (by simp) ?_ ?_ ?_ (X c,gp (w.length-1-ps.getD c 0)) (zF.2 ⟨c,yX.2 hc,rfl⟩)
 ·rw[hm];have:∀(l:List Nat),l.Nodup->(∀p∈l,p<w.length)->(l.map fun p=>gp (w.length-1-p)).Nodup:=by
   intro l;induction l with
   |nil=>intro _ _;simp
   |cons q l ih =>
    intro h1 h2;rw[uQ]at h1;rw[wK,uQ];refine⟨fun hm=>?_,ih h1.2 fun p hp=>h2 p (vN _ hp)⟩;obtain⟨p,hp,e⟩:=zF.1 hm;have a:=h2 p (vN _ hp);have b:=h2 q vM;have:=Ge (by omega) (by omega) e;have e2:p=q:=by omega
    exact h1.1 (e2▸hp)
  exact this ps hd hlt
 ·intro p hp;obtain⟨i,_,rfl⟩:=zF.1 hp;exact JX _
 ·intro j h1 h2;have:=hs (j-1) (by omega);rw[vz,h0,eB,add_zero,Nat.sub_add_cancel h1]at this;exact this
theorem Ee(X:Nat->F)(f:Nat->F)(ps:List Nat):((List.range ps.length).map X).zip (ps.map f)=(List.range ps.length).map fun c=>(X c,f (ps.getD c 0)):=by
 apply xW;intro i;rcases zU i ps.length with hi|hi
 ·simp[List.getElem?_zip_eq_some,wJ hi,zV hi]
 ·rw[zC (by simpa using hi),zC (by simpa using hi)]
theorem zw{w:List F}{ps:List Nat}(hlt:∀p∈ps,p<w.length)(X:Nat->F)(h1:X ps.length=1):Sol (sysM w ps) X (ps.length+1)↔Code (F.addAt w ps ((List.range ps.length).map X)):=by
 have h:∀j,ev (gp j) (F.addAt w ps ((List.range ps.length).map X))=ev (gp j) w+pL ((List.range ps.length).map fun c=>(X c,gp (w.length-1-ps.getD c 0))) j:=fun j=>by rw[yl j ps _ w hlt (by simp),Ee X (fun p=>gp (w.length-1-p))]
 constructor
 ·intro hs j h2 h3;have:=hs (j-1) (by omega);rw[vz,h1,mul_one,Nat.sub_add_cancel h2]at this;rw[h,add_comm];exact this
 ·intro hc r hr;have:=hc (r+1) (by omega) (by omega);rw[h]at this;rw[vz,h1,mul_one,add_comm];exact this
theorem sys_end{w:List F}{ps:List Nat}{M:Nat->Nat->F}(hn:w.length<=31)(hd:ps.Nodup)(hlt:∀p∈ps,p<w.length)(h6:ps.length<=6)(hu:Unit6 M ps.length)(hM:∀X,Sol M X (ps.length+1)↔Sol (sysM w ps) X (ps.length+1)) :
  ((∀r,ps.length<=r->r<6->M r ps.length=0)->Code (F.addAt w ps ((List.range ps.length).map fun c=>M c ps.length))) /\
  (∀c,Off w c ps->Code c->(∀r,ps.length<=r->r<6->M r ps.length=0)/\c=F.addAt w ps ((List.range ps.length).map fun c=>M c ps.length)):=by
 constructor
 ·intro hb;have h:=(zw hlt (fun c=>if c<ps.length then M c ps.length else 1) (by simp)).1 ((hM _).1 ((yx hu h6 _ (by simp)).2 ⟨fun c hc=>by simp[hc],hb⟩));have e:(List.range ps.length).map (fun c=>if c<ps.length then M c ps.length else 1)=(List.range ps.length).map fun c=>M c ps.length:=vK fun c hc=>by rw[if_pos (yX.1 hc)]
  rw[e]at h;exact h
 ·intro c ho hc;have hcw:=GG ps w c ho hd hlt;have e:(ps.map fun p=>w.getD p 0+c.getD p 0)=(List.range ps.length).map (fun i=>if i<ps.length then w.getD (ps.getD i 0) 0+c.getD (ps.getD i 0) 0 else 1):=by
   apply xW;intro i;rcases zU i ps.length with hi|hi
   ·simp[wJ hi,zV hi,hi]
   ·rw[zC (by simpa using hi),zC (by simpa using hi)]
  rw[e]at hcw;rw[hcw]at hc;have hs:=(hM _).2 ((zw hlt (fun i=>if i<ps.length then w.getD (ps.getD i 0) 0+c.getD (ps.getD i 0) 0 else 1) (by simp)).2 hc);obtain⟨h1,h2⟩:=(yx hu h6 _ (by simp)).1 hs;refine⟨h2,?_⟩;rw[hcw];congr 1
  exact vK fun i hi=>h1 i (yX.1 hi)
end F
end Go.Proofs.YtpaidaphacoblaaGreatDoor

namespace Go.Proofs.YtpaidaphacoblaaGreatDoor
open Go.Value renaming int→B
open Go.IntKind renaming i64→C
open Go.RowKit _root_.Go.Proofs.Tryz
variable {n p:Nat} {l:List Int}
def wI(l:List F):List Int:=l.map fun c=>(c.n:Int)
theorem aT(l:List F):(wI l).length=l.length:=by simp[wI]
theorem DQ{l:List F}{k:Nat}{x:Int}(h:(wI l)[k]?=some x):∃c:F,l[k]?=some c/\x=(c.n:Int):=by unfold wI at h;rw[zP,yO]at h;obtain⟨c,h1,h2⟩:=h;exact⟨c,h1,h2.symm⟩
theorem tV(a b:List F):wI (a++b)=wI a++wI b:=by simp[wI]
theorem AM(a b:F)(w:World)(hT:cK w) :
  Calls prog 171 #[B C (a.n:Int),B C (b.n:Int)] w fun e w'=>e=.returned (B C ((a*b).n:Int))/\∃n,w'=w.drewN n:=by
 have ha:=a.lt;have hb:=b.lt;have h:=IK a.n b.n w hT (by omega) (by omega) (by omega) (by omega);rw[lC _ _ ha hb,<-F.n_mul]at h;exact h
theorem CB(a b:F)(w:World) :
  Calls prog 132 #[B C (a.n:Int),B C (b.n:Int)] w fun e w'=>e=.returned (B C ((a*b).n:Int))/\w'=w:=by
 have h:=D2 a.n b.n w a.lt b.lt;rw[lC _ _ a.lt b.lt,<-F.n_mul]at h;exact h
theorem AZ(m:Nat):Anw (m:Int)=((F.gp m).n:Int):=by rw[F.n_gp];unfold Anw;rw[show ((m:Int)%31).toNat=m%31 by omega]
theorem vf(m:Nat)(w:World)(hT:cK w)(h:m<=1000000) :
  Calls prog 172 #[B C (m:Int)] w fun e w'=>e=.returned (B C ((F.gp m).n:Int))/\w'=w:=by
 have:=Fa m w hT (by omega) (by omega);rw[AZ]at this;exact this
theorem yr(m:Nat)(w:World)(h:m<=1000000) :
  Calls prog 129 #[B C (m:Int)] w fun e w'=>e=.returned (B C ((F.gp m).n:Int))/\ab w w':=by
 have:=CA m w (by omega) (by omega);rw[AZ]at this;exact this
theorem Hj(a:F):sc (a.n:Int)=(a.inv.n:Int):=by
 have:=a.lt;unfold sc iU;rw[F.n_inv];by_cases h:a.n=0
 ·rw[if_neg (by simp[h]),if_pos h];rfl
 ·rw[if_pos (by simp;omega),if_neg h];simp
theorem EF(a:F)(w:World)(hT:cK w) :
  Calls prog 198 #[B C (a.n:Int)] w fun e w'=>e=.returned (B C (a.inv.n:Int))/\w'=w:=by
 have ha:=a.lt;have:=xx a.n w hT (by omega) (by omega);rw[Hj]at this;exact this
theorem Cm(a:F)(w:World) :
  Calls prog 131 #[B C (a.n:Int)] w fun e w'=>e=.returned (B C (a.inv.n:Int))/\w'=w:=by
 have ha:=a.lt;have:=tO a.n w (by omega) (by omega);rw[Hj]at this;exact this
theorem pD(a b:F):bits .xor .i64 (a.n:Int) (b.n:Int)=((a+b).n:Int):=by have ha:=a.lt;have hb:=b.lt;rw[zo _ _ (by omega) (by omega),F.n_add]
def eP(f:Nat->F)(n:Nat):Array Value:=((List.range n).map fun i=>Value.int .i64 ((f i).n:Int)).toArray
theorem jR{f:Nat->F}{i:Nat}(h:i<n):(eP f n)[i]?=some (B C ((f i).n:Int)):=by unfold eP;rw[List.getElem?_toArray,zP,wJ h];rfl
theorem iw{f g:Nat->F}(h:∀i,i<n->f i=g i):eP f n=eP g n:=by unfold eP;congr 1;exact vK fun i hi=>by rw[h i (yX.1 hi)]
theorem Bz(f:Nat->F)(n i:Nat)(y:F):(eP f n).setIfInBounds i (B C (y.n:Int))=eP (fun k=>if k=i then y else f k) n:=by
 unfold eP;rw[List.setIfInBounds_toArray];congr 1
 apply xW;intro j;rcases zU j n with hj|hj
 ·rw[yD,zP,zP,wJ hj,zJ,wQ];by_cases e:i=j
  ·subst e;simp[hj]
  ·simp[e,Ne.symm e]
 ·rw[zC (by simpa using hj),zC (by simpa using hj)]
def aw(wd:List F)(i:Nat):F:=F.ev (F.gp (i+1)) wd
def nd(wd:List F)(j:Nat)(s:F):Nat->F:=fun i=>if i<j then aw wd i else if i=j then s else 0
theorem Jt{x:F}{wd:List F}{k:Nat}{c:F}(h:wd[k]?=some c):F.ev x (wd.drop k)=c*F.pwr x (wd.length-1-k)+F.ev x (wd.drop (k+1)):=by obtain⟨hk,rfl⟩:=zY.1 h;rw[vZ hk];simp only[F.ev,wD];rw[show wd.length-(k+1)=wd.length-1-k by omega]
theorem I9(v:Value)(wd:List F)(w:World)(hT:cK w)(hI:ak p w v (wI wd))(hn:wd.length<=1000) :
  Calls prog 145 #[v] w fun e w'=>e=.returned (.agg (eP (aw wd) 6))/\ab w w':=by
 have h0:=hI.re (zX w.heap.size);obtain⟨A,n,c,rfl,hnc,hc,hnn,HL⟩:=hI.open_;have HLn:Hid (wd.length=n):=by have:=HL.out;rw[aT]at this;exact this
 have hn1:n<=1000:=by have:=HLn.out;omega
 have HI:=zZ h0;have HT:=zZ hT;clear hI h0 hT hn;go_enter func145,ntmps145
 go_upto_region 2 with (fail)
 generalize hW:(w.alloc (.cells #[B C 0,B C 0,B C 0,B C 0,B C 0,B C 0] 214)).alloc (.cells #[B C 0,B C 0,B C 0,B C 0,B C 0,B C 0] 214)=W;have HE:Hid (ab w W):=by subst hW;exact ((zE w).alloc _).alloc _
 have HR:Hid (W.heap[w.heap.size]?=some (.cells #[B C 0,B C 0,B C 0,B C 0,B C 0,B C 0] 214 (0,0))):=by subst hW;exact ((zE _).alloc _).blk (heap_alloc_new w _)
 have HG:Hid (W.heap[w.heap.size+1]?=some (.cells (eP (nd wd 0 0) 6) 214 (0,0))):=by subst hW;have:=heap_alloc_new (w.alloc (.cells #[B C 0,B C 0,B C 0,B C 0,B C 0,B C 0] 214)) (.cells #[B C 0,B C 0,B C 0,B C 0,B C 0,B C 0] 214);rw[vW]at this;exact this
 clear hW;have HIW:=zZ ((HI.out.re (q:=w.heap.size+1) (by omega)).ext HE.out);have HTW:=zZ (HT.out.ext HE.out);have hg2:2<=w.heap.size+1:=by have:=HT.out.lt;omega
 clear HI HT;go_wp2_with fail;go_loopw [7] (fun s7 wr=>∃(j:Nat),s7=B C j/\j<=6/\Hid (wr.heap[w.heap.size+1]?=some (.cells (eP (nd wd j 0) 6) 214 (0,0))/\XT (w.heap.size+1) W wr)) (fun i _=>6-(intOf i).toNat)
 case atStart=>exact⟨0,rfl,by omega,HG.out,XT.refl _ _⟩
 case round =>
  obtain⟨j,rfl,hj,HJ⟩:=hrel;clear HG;by_cases hj6:j<6
  ·obtain⟨wo,rfl⟩:=nm (wr:World);have hd:decide ((j:Int)<6)=true:=by simp;omega
   go_wp2_with fail;go_loopw [12] (fun s12 wr=>∃(k:Nat),s12=B C k/\k<=n/\Hid (wr.heap[w.heap.size+1]?=some (.cells (eP (nd wd j (aw wd j+F.ev (F.gp (j+1)) (wd.drop k))) 6) 214 (0,0))/\XT (w.heap.size+1) W wr)) (fun i _=>n-(intOf i).toNat)
   case atStart=>exact⟨0,rfl,by omega,by rw[uZ];unfold aw;rw[F.add_self];exact HJ.out.1,HJ.out.2⟩
   case round =>
    clear HJ;obtain⟨k,rfl,hk,HK⟩:=hrel;by_cases hkn:k<n
    ·have HIr:=zZ (HIW.out.xt HK.out.2);have HTr:=zZ (HTW.out.xt HK.out.2 hg2);obtain⟨b,o,z,rfl,-⟩:=HIr.out.at_ hkn;obtain⟨z,hcz,HZ,-⟩:=HIr.out.cell_ hkn;obtain⟨cf,hcf,rfl⟩:=DQ HZ.out;generalize hs:aw wd j+F.ev (F.gp (j+1)) (wd.drop k)=sf at HK;have HS:=zZ hs;have HCF:=zZ hcf;clear hs hcf HZ;have hat:wr.cell? ⟨w.heap.size+1,j,none⟩=some (B C (sf.n:Int)):=ac HK.out.1 (by rw[jR hj6];simp[nd]);have hfz:wr.frozen? ⟨w.heap.size+1,j,none⟩=false:=ae HK.out.1 _;obtain⟨m,hm⟩:=nm ((j+1)*(n-1-k):Nat);have hm':((j:Int)+1)*((n:Int)-1-(k:Int))=(m:Int):=by
      rw[hm,Int.natCast_mul,show (((j+1:Nat)):Int)=(j:Int)+1 by omega,show (((n-1-k:Nat)):Int)=(n:Int)-1-(k:Int) by omega]
     have hmb:m<=10000:=by have h1:(j+1)*(n-1-k)<=6*1000:=Nat.mul_le_mul (by omega) (by omega);omega
     have hwm:Hid (IntKind.i64.wrap (IntKind.i64.wrap ((j:Int)+1)*IntKind.i64.wrap (IntKind.i64.wrap ((n:Int)-1)-(k:Int)))=(m:Int)):=by
      show _=_
      rw[yN ((j:Int)+1) (by omega),yN ((n:Int)-1) (by omega),yN ((n:Int)-1-(k:Int)) (by omega),hm'];exact yN _ (by omega)
     have HM:=zZ hm;clear hm hm';have hS:wr.drew.cell? ⟨w.heap.size+1,j,none⟩=some (B C (sf.n:Int)):=hat;replace hS:=zZ hS;have e1:(0:Int)<=(j:Int):=xT _;have e2:(j:Int)<6:=by omega
     go_upto_region 8 with (fail)
     refine zR 16 (fun w'=>w'.cell? ⟨w.heap.size+1,j,none⟩=some (B C (sf.n:Int))) ?_;refine zS 12 [(0,17),(1,18),(2,19),(3,20),(4,21),(5,22),(6,23),(7,24),(8,25),(9,26),(10,27),(11,28)] hS.out ?_;iterate 12 refine zT ?_
     refine zN (zO 12 (fun K hK=>?_));go_simp;rw[hwm.out];refine (vf m _ (HTr.out.ext (zE _).drew) (by omega)).mono ?_;rintro e x1 ⟨rfl,rfl⟩;refine hK.out _ _ (fun _=>hS.out) ?_;clear hK K;try simp only[kA]
     refine zO 13 (fun K hK=>?_);go_simp;refine (AM cf (F.gp m) _ (HTr.out.ext (zE _).drew)).mono ?_;rintro e x1 ⟨rfl,m2,hx1⟩;have HX1:Hid (ab wr x1):=by rw[hx1];exact (zE wr).drew.drewN m2
     clear hx1;replace hS:=zZ (HX1.out.cell hat);have hg3:=zZ (HX1.out.blk HK.out.1);replace hfz:=ae hg3.out j;replace hat:=hS.out;refine hK.out _ _ (fun _=>hS.out) ?_;clear hK K;try simp only[kA]
     refine zS 2 [(14,31),(15,32)] hS.out ?_;iterate 2 refine zT ?_
     refine zN (zO 16 (fun K hK=>?_));go_simp;refine hK.out _ _ (fun h=>absurd rfl h) ?_;clear hK K;refine zD ?_;rw[pD];have HG2:Hid ((x1.setCell ⟨w.heap.size+1,j,none⟩ (B C ((sf+cf*F.gp m).n:Int))).heap[w.heap.size+1]?=some (.cells (eP (nd wd j (aw wd j+F.ev (F.gp (j+1)) (wd.drop (k+1)))) 6) 214 (0,0))):=by
      have h:=bn (w:=x1) (i:=j) hg3.out (B C ((sf+cf*F.gp m).n:Int));rw[Bz]at h;show _=_
      rw[h];congr 2
      refine iw fun i _=>?_;unfold nd;by_cases e:i=j
      ·subst e;rw[if_pos rfl,if_neg (by omega),if_pos rfl,<-HS.out,Jt HCF.out,F.pwr_gp,HM.out,HLn.out,wM (n-1-k)];rw[F.add_assoc];congr 1
       rw[F.add_comm (cf*_),F.add_assoc,F.add_self,F.add_zero]
      ·rw[if_neg e,if_neg e,if_neg e]
     have HX2:Hid (XT (w.heap.size+1) W (x1.setCell ⟨w.heap.size+1,j,none⟩ (B C ((sf+cf*F.gp m).n:Int)))):=(HK.out.2.ext HX1.out).setCell rfl _;go_wp2_with fail;go_roundw
     case rel=>exact⟨k+1,by go_num,by omega,HG2.out,HX2.out⟩
     case measure=>simp[intOf];omega
    ·obtain rfl:k=n:=by omega
     go_wp2_with fail;go_roundw
     case rel =>
      refine⟨j+1,by go_num,by omega,?_,HK.out.2⟩;rw[HK.out.1,uF (by rw[HLn.out];exact zX _)];congr 2
      refine iw fun i hi=>?_;unfold nd;show (if i<j then _ else if i=j then aw wd j+0 else 0)=_
      rw[F.add_zero];by_cases e:i<j
      ·rw[if_pos e,if_pos (by omega)]
      ·rw[if_neg e];by_cases e2:i=j
       ·subst e2;rw[if_pos rfl,if_pos (by omega)]
       ·rw[if_neg e2,if_neg (by omega)];split<;>rfl
     case measure=>simp[intOf];omega
  ·obtain rfl:j=6:=by omega
   have hsy:Hid (eP (nd wd 6 0) 6=eP (aw wd) 6):=iw fun i hi=>by unfold nd;rw[if_pos hi]
   have g:∀i,i<6->wr.cell? ⟨w.heap.size+1,i,none⟩=some (B C ((aw wd i).n:Int)):=fun i hi=>ac HJ.out.1 (by rw[hsy.out,jR hi]);have HRr:=zZ (HJ.out.2.blk HR.out (by omega));have g0:=g 0 (by omega);have g1:=g 1 (by omega);have g2:=g 2 (by omega);have g3:=g 3 (by omega);have g4:=g 4 (by omega);have g5:=g 5 (by omega);have r0:=ac HRr.out (i:=0) rfl;have r1':=ac HRr.out (i:=1) rfl;have r2':=ac HRr.out (i:=2) rfl;have r3:=ac HRr.out (i:=3) rfl;have r4:=ac HRr.out (i:=4) rfl;have r5:=ac HRr.out (i:=5) rfl;have f0:=ae HRr.out 0;have f1:=ae HRr.out 1;have f2:=ae HRr.out 2;have f3:=ae HRr.out 3;have f4:=ae HRr.out 4;have f5:=ae HRr.out 5;clear g;go_wp2_with fail;refine bodyPost_ret (v:=.agg #[B C ((aw wd 0).n:Int),B C ((aw wd 1).n:Int),B C ((aw wd 2).n:Int),B C ((aw wd 3).n:Int),B C ((aw wd 4).n:Int),B C ((aw wd 5).n:Int)]) (by simp[results,results145,go_sem,r0,r1',r2',r3,r4,r5]) rfl ⟨rfl,?_⟩;have h1:=HJ.out.2.fresh HE.out (by omega);exact ab.setCell (ab.setCell (ab.setCell (ab.setCell (ab.setCell (ab.setCell h1 (by simp) _) (by simp) _) (by simp) _) (by simp) _) (by simp) _) (by simp) _
def sq(f x:Int):Bool:=decide (x<f)||decide (32<=x)
theorem pC(x f:Int)(g:Nat)(w:World)(hc:w.cell? ⟨g,0,none⟩=some (B C f)) :
  Calls prog 170 #[B C x,.pointer (some ⟨g,0,none⟩)] w fun e w'=>e=.returned (.bool (sq f x))/\w'=w:=by
 by_cases c1:x<f
 ·go_enter func170,ntmps170
  go_wp2
  go_ret
  exact⟨aa (by unfold sq;simp[c1]),rfl⟩
 ·go_enter func170,ntmps170
  go_wp2
  go_ret
  exact⟨aa (by unfold sq;rw[decide_eq_false (show ¬x<f by omega)];rfl),rfl⟩
theorem FG{P:Int->Bool}(hl:l.length=n)(h:∀j x,j<n->l[j]?=some x->P x=false):l.any P=false:=by rw[wO];intro x hx;obtain⟨j,hj,e⟩:=List.getElem_of_mem hx;rw[h j x (by omega) (by rw[zV hj,e])];simp
theorem Bo(v:Value)(l:List Int)(f:Int)(g:Nat)(w:World)(hI:ak p w v l)(hc:w.cell? ⟨g,0,none⟩=some (B C f)) :
  Calls prog 102 #[v,.func (.func 170) #[] #[.pointer (some ⟨g,0,none⟩)]] w fun e w'=>∃r,e=.returned (B C r)/\decide (0<=r)=l.any (sq f)/\w'=w:=by
 obtain⟨A,n,c,rfl,hnc,hcc,hnn,HL⟩:=hI.open_;have HI:=zZ hI;have HC:=zZ hc;clear hI hc;go_enter func102,ntmps102
 go_wp2_with fail;go_loopw [8] (fun i wr=>∃(k:Nat),i=B C k/\k<=n/\Hid (∀j x,j<k->l[j]?=some x->sq f x=false)/\wr=w) (fun i _=>n-(intOf i).toNat)
 case atStart=>exact⟨0,rfl,by omega,fun j x hj=>by omega,rfl⟩
 case round =>
  obtain⟨k,rfl,hk,HK,rfl⟩:=hrel;by_cases hkn:k<n
  ·obtain⟨b,o,z,rfl,-⟩:=HI.out.at_ hkn;obtain⟨z,hcz,HZ,-⟩:=HI.out.cell_ hkn;rcases yS (sq f z) with hb|hb
   ·go_wp2_with (go_at_call 170;refine (pC z f g _ HC.out).mono ?_;rintro e w1 ⟨rfl,rfl⟩;rw[hb]);go_ret
    exact⟨_,rfl,by rw[decide_eq_true (by omega)];exact (wZ.2 ⟨z,zW HZ.out,hb⟩).symm,rfl⟩
   ·go_wp2_with (go_at_call 170;refine (pC z f g _ HC.out).mono ?_;rintro e w1 ⟨rfl,rfl⟩;rw[hb]);go_roundw
    case rel =>
     refine⟨k+1,by go_num,by omega,fun j x hj hx=>?_,trivial⟩;by_cases e:j=k
     ·subst e;rw[HZ.out]at hx;injection hx with hx;subst hx;exact hb
     ·exact HK.out j x (by omega) hx
    case measure=>simp[intOf];omega
  ·obtain rfl:k=n:=by omega
   go_wp2_with fail;go_ret
   exact⟨_,rfl,by rw[FG HL.out HK.out];decide,rfl⟩
theorem rX(v:Value)(l:List Int)(f:Int)(g:Nat)(w:World)(hI:ak p w v l)(hc:w.cell? ⟨g,0,none⟩=some (B C f)) :
  Calls prog 68 #[v,.func (.func 170) #[] #[.pointer (some ⟨g,0,none⟩)]] w fun e w'=>e=.returned (.bool (l.any (sq f)))/\w'=w:=by
 obtain⟨A,n,c,rfl,-⟩:=hI.open_;have HI:=zZ hI;have HC:=zZ hc;clear hI hc;go_enter func68,ntmps68
 go_wp2_with (go_at_call 102;refine (Bo _ l f g _ HI.out HC.out).mono ?_;rintro e w1 ⟨r,rfl,hr,rfl⟩);go_ret
 exact⟨rfl,rfl⟩
def cD(f:Int)(l:List Int):Bool:=decide (7<=l.length)&&(decide (l.length<=15)&&!l.any (sq f))
theorem qB(v:Value)(l:List Int)(f:Int)(w:World)(hI:ak p w v l) :
  Calls prog 144 #[v,B C f] w fun e w'=>e=.returned (.bool (cD f l))/\ab w w':=by
 obtain⟨A,n,c,rfl,hnc,hc,hnn,HL⟩:=hI.open_;have HI:=zZ hI;clear hI;by_cases h7:7<=n
 ·by_cases h15:n<=15
  ·go_enter func144,ntmps144
   go_wp2_with (go_at_call 68;refine (rX _ l f w.heap.size _ (HI.out.ext ((zE _).alloc _)) (ac (heap_alloc_new w _) (i:=0) rfl)).mono ?_;rintro e w1 ⟨rfl,rfl⟩);go_ret
   exact⟨aa (by unfold cD;rw[HL.out];simp[h7,h15]),(zE _).alloc _⟩
  ·go_enter func144,ntmps144
   go_wp2_with fail;go_ret
   exact⟨aa (by unfold cD;rw[HL.out];simp[h15]),(zE _).alloc _⟩
 ·go_enter func144,ntmps144
  go_wp2_with fail;go_ret
  exact⟨aa (by unfold cD;rw[HL.out];simp[h7]),(zE _).alloc _⟩
def bv(l:List Int):List F:=l.map fun x=>F.mk (x.toNat%32) (xI _ (by decide))
theorem bt(l:List Int):(bv l).length=l.length:=by simp[bv]
theorem ww(h:∀x∈l,0<=x/\x<32):wI (bv l)=l:=by
 unfold wI bv;rw[vY];refine (vK (g:=id) fun x hx=>?_).trans (List.map_id l);have:=h x hx;show ((x.toNat%32:Nat):Int)=x
 omega
theorem tP(l:List F):bv (wI l)=l:=by
 unfold wI bv;rw[vY];refine (vK (g:=id) fun x _=>F.ext ?_).trans (List.map_id l);have:=x.lt;show ((x.n:Int)).toNat%32=x.n
 omega
theorem ew{f:Int}(h:cD f l=true):7<=l.length/\l.length<=15/\∀x∈l,f<=x/\x<32:=by unfold cD at h;simp only[yT,decide_eq_true_eq,uY,wO]at h;refine⟨h.1,h.2.1,fun x hx=>?_⟩;have:=h.2.2 x hx;unfold sq at this;simp only[Bool.or_eq_true,decide_eq_true_eq]at this;omega
theorem mO{f:Int}(h1:7<=l.length)(h2:l.length<=15)(h:∀x∈l,f<=x/\x<32):cD f l=true:=by unfold cD;simp only[yT,decide_eq_true_eq,uY,wO];refine⟨h1,h2,fun x hx=>?_⟩;have:=h x hx;unfold sq;simp only[Bool.or_eq_true,decide_eq_true_eq];omega
def iG(l:List Int):Bool:=cD 0 l&&(aw (bv l) 0==0&&(aw (bv l) 1==0&&(aw (bv l) 2==0&&(aw (bv l) 3==0&&(aw (bv l) 4==0&&aw (bv l) 5==0)))))
theorem lk(a:F):((a.n:Int)==0)=(a==0):=by
 by_cases h:a=0
 ·subst h;simp[F.n_zero]
 ·have:a.n≠0:=fun e=>h (F.ext e);rw[beq_eq_false_iff_ne.2 h,beq_eq_false_iff_ne.2 (by omega)]
theorem qG(wd:List F):(aw wd 0==0&&(aw wd 1==0&&(aw wd 2==0&&(aw wd 3==0&&(aw wd 4==0&&aw wd 5==0)))))=true↔F.Code wd:=by
 simp only[yT,beq_iff_eq];constructor
 ·rintro⟨h0,h1,h2,h3,h4,h5⟩ j j1 j2;have:j=1\/j=2\/j=3\/j=4\/j=5\/j=6:=by omega
  rcases this with rfl|rfl|rfl|rfl|rfl|rfl
  ·exact h0
  ·exact h1
  ·exact h2
  ·exact h3
  ·exact h4
  ·exact h5
 ·intro h;exact⟨h 1 (by omega) (by omega),h 2 (by omega) (by omega),h 3 (by omega) (by omega),h 4 (by omega) (by omega),h 5 (by omega) (by omega),h 6 (by omega) (by omega)⟩
theorem Gy(f:Nat->F):eP f 6=#[B C ((f 0).n:Int),B C ((f 1).n:Int),B C ((f 2).n:Int),B C ((f 3).n:Int),B C ((f 4).n:Int),B C ((f 5).n:Int)]:=rfl
theorem G9(v:Value)(wd:List F)(w:World)(hT:cK w)(hI:ak p w v (wI wd))(hn:wd.length<=1000) :
  Calls prog 145 #[v] w fun e w'=>e=.returned (.agg #[B C ((aw wd 0).n:Int),B C ((aw wd 1).n:Int),B C ((aw wd 2).n:Int),B C ((aw wd 3).n:Int),B C ((aw wd 4).n:Int),B C ((aw wd 5).n:Int)])/\ab w w':=by
 have h:=I9 v wd w hT hI hn;rw[Gy]at h;exact h
theorem jF(v:Value)(l:List Int)(w:World)(h:ak p w v l)(hl:l.length<=1000) :
  Calls prog 35 #[v] w fun e w'=>∃v',e=.returned v'/\w'.ownsRow w.heap.size 3 1 v' l.length (l.map (Value.int .i64))/\ab w w':=by
 obtain⟨A,n,c,rfl,hnc,hc,hnn,HL⟩:=h.open_;have hn:n<=1000:=by have:=HL.out;omega
 have H:=zZ h;clear h hl;obtain⟨i0,hi0,hz0,hz1,hz2⟩:=info_parts Tryz.infoI;have q28:∀(w:World) (a:Option Addr) (n c n' c':Nat),(binOp .eql 22 (.slice a n c) (.slice none n' c')).run prog w=.ok (.bool a.isNone) w:=fun w a n c n' c'=>Lib.run_eql_slice_nil w _ _ a n c n' c' underlying22;rcases A with _|⟨b,off,ix⟩
 ·go_enter func35,ntmps35
  go_wp2_with fail;go_ret
  refine⟨_,rfl,?_,zE _⟩;have:l=[]:=by
   rcases vE n with h0|h0
   ·exact xZ (by have:=HL.out;omega)
   ·obtain⟨b,off,x,hb,_⟩:=H.out.at_ h0;cases hb
  rw[this];exact yZ _ _ _ _
 ·go_enter func35,ntmps35
  have HO:Hid ((w.alloc (.cells #[] 3)).ownsRow w.heap.size 3 1 (.slice (some ⟨w.heap.size,0,none⟩) 0 0) 0 []):=uT w #[] 0 (zX _) (by unfold maxLen;omega) rfl;go_wp2_with (at_builtin;refine dh _ rfl (.tmp 5) (.tmp 6) 22 rfl w.heap.size 3 i0 _ 8 underlying22 hi0 hz0 hz1 hz2 rfl _ 0 [] rfl HO.out p (some ⟨b,off,ix⟩) n c l rfl (H.out.ext ((zE _).alloc _)) (by omega) (by omega) (by simp) ?_;intro v' w' hown hg);go_ret
  refine⟨_,rfl,by rw[HL.out];simpa using hown,?_⟩;exact ab.grown ((zE _).alloc _) hg (fun k hk=>by have:=aq HO.out k hk;omega)
end Go.Proofs.YtpaidaphacoblaaGreatDoor

