import Derived.Test.YtkaajgoeahahpaaGreatDoorK5
set_option linter.all false
set_option maxRecDepth 100000
set_option maxHeartbeats 0
namespace Go.Proofs.YtkaajgoeahahpaaGreatDoor
open Go.Value renaming int→B
open Go.IntKind renaming i64→C
open Go.RowKit
variable {fuel i id n p:Nat} {listed:Array Bool} {a:Act} {w:World} {l:List Int}
section
variable {P:Program} {ops:Array Oper} {Q:Exit->Act->World->Prop} {md:Region.Mode} {S:World->Prop} {k:Nat}
def cM(P:Program)(md:Region.Mode)(ops:Array Oper)(Q:Exit->Act->World->Prop)(S:World->Prop)(k:Nat):Nat->Array Bool->Act->World->Prop
 |0,listed,a,w=>Region.ready md ops listed=[]/\Q .normal a w
 |fuel+1,listed,a,w =>
  (Region.ready md ops listed=[]->Q .normal a w) /\
  ∀i∈Region.ready md ops listed,wpOp P ops Q i (fun a' w'=>(i≠k->S w')/\cM P md ops Q S k fuel (listed.setIfInBounds i true) a' w') a w
theorem rJ:∀(fuel:Nat) (listed:Array Bool) (a:Act) (w:World),cM P md ops Q S k fuel listed a w->wpAny P md ops Q fuel listed a w
 |0,_,_,_,h=>h
 |fuel+1,_,_,_,h=>⟨h.1,fun i hi=>wpOp_mono (fun a' w' h'=>rJ fuel _ a' w' h'.2) (h.2 i hi)⟩
theorem nZ{oi:Oper}{v:Value}(hi:ops[i]?=some oi)(hsel:∀(j:Nat) (o:Oper) cs b,ops[j]?=some o->o.op≠.select cs b)(hQ:∀c a w,Q (.panic c) (a.put oi.dst v) w->Q (.panic c) a w)(hik:i≠k)(hkw:∀ok,ops[k]?=some ok->∃e∈ok.after,Region.binds md e=true/\e.on=i) :
  ∀(fuel:Nat) (listed:Array Bool) (a:Act) (w:World),
   (∀j oj,ops[j]?=some oj->j≠i->listed.getD j true=false->(∀e∈oj.after,Region.binds md e=true->e.on≠i)->oi.apart ops oj=true) ->
   i∈Region.ready md ops listed->YieldsIf P ops S oi v a->S w ->
   cM P md ops Q S k fuel (listed.setIfInBounds i true) (a.put oi.dst v) w->cM P md ops Q S k (fuel+1) listed a w:=by
 intro fuel;induction fuel with
 |zero =>
  intro listed a w _ hr hy hS H;refine⟨fun h=>(by rw[h]at hr;cases hr),fun j hj=>?_⟩;by_cases hji:j=i
  ·subst hji;exact hy.wpOp hi hS ⟨fun _=>hS,H⟩
  ·have:=ready_mono hj hji;rw[H.1]at this;cases this
 |succ fuel ih =>
  intro listed a w hfree hr hy hS H;refine⟨fun h=>(by rw[h]at hr;cases hr),fun j hj=>?_⟩;by_cases hji:j=i
  ·subst hji;exact hy.wpOp hi hS ⟨fun _=>hS,H⟩
  ·have h1:=H.2 j (ready_mono hj hji);obtain⟨hjun,oj,hoj,hall⟩:=mem_ready.1 hj;have hnot:∀e∈oj.after,Region.binds md e=true->e.on≠i:=fun e he hb heq=>by
    have h1:=hall e he hb;have h0:=(mem_ready.1 hr).1;rw[heq]at h1;rcases zU i listed.size with h'|h'
    ·simp[h']at h0 h1;rw[h0]at h1;cases h1
    ·simp[wY h']at h1
   have hjk:j≠k:=fun e=>by subst e;obtain⟨x,hx,hb,ho⟩:=hkw oj hoj;exact hnot x hx hb ho
   have h2:=wpOp_putIf hoj (hfree j oj hoj hji hjun hnot) (fun cs b=>hsel i oi cs b hi) (fun cs b=>hsel j oj cs b hoj) hQ hy h1;have hfree':∀m om,ops[m]?=some om->m≠i->(listed.setIfInBounds j true).getD m true=false ->
     (∀e∈om.after,Region.binds md e=true->e.on≠i)->oi.apart ops om=true:=fun m om hm hmi hun hno=>by
    refine hfree m om hm hmi ?_ hno;by_cases hjm:j=m
    ·subst hjm;exact hjun
    ·rw[getD_set_ne true hjm]at hun;exact hun
   refine wpOp_mono (fun a' w' h3=>⟨h3.2.1,ih (listed.setIfInBounds j true) a' w' hfree' (ready_mono hr (Ne.symm hji)) h3.1 (h3.2.1 hjk) ?_⟩) h2;rw[Array.setIfInBounds_comm _ _ hji];exact h3.2.2
def rU(md:Region.Mode)(ops:Array Oper)(k i:Nat):Bool:=match ops[k]? with|some o=>o.after.toList.any fun e=>Region.binds md e&&e.on==i|none=>true
theorem jP(h:rU md ops k i=true):∀ok,ops[k]?=some ok->∃e∈ok.after,Region.binds md e=true/\e.on=i:=by intro ok hk;unfold rU at h;rw[hk]at h;simp only[wZ,yT,beq_iff_eq]at h;obtain⟨e,he,hb,ho⟩:=h;exact⟨e,by simpa using he,hb,ho⟩
theorem Cw(i:Nat){o:Oper}{a:Act}{w:World}(hr:Region.ready md ops listed=[i])(ho:ops[i]?=some o)(h:∀K':Act->World->Prop,Shut (∀a w,(i≠k->S w)->cM P md ops Q S k fuel (listed.setIfInBounds i true) a w->K' a w)->if Region.wanted o (yielded ops a.tmps)=true then Oper.wp P o a w K' Q else K' (a.put o.dst undef) w) :
  cM P md ops Q S k (fuel+1) listed a w:=by
 refine⟨fun h0=>(by rw[hr]at h0;cases h0),fun j hj=>?_⟩;rw[hr]at hj;obtain rfl:j=i:=by simpa using hj
 exact wpOp_step ho (fun K' hK=>h K' (fun a w hS hW=>hK a w ⟨hS,hW⟩))
theorem zc{listed:Array Bool}{a:Act}{w:World}(hr:Region.ready md ops listed=[])(h:Q .normal a w) :
  ∀fuel,cM P md ops Q S k fuel listed a w
 |0=>⟨hr,h⟩
 |_+1=>⟨fun _=>h,by rw[hr];simp⟩
theorem px(k:Nat)(S:World->Prop)(hm:P.follows .mixedOrders=true)(h:cM P .any ops Q S k ops.size (Array.replicate ops.size false) a w.drew):(Code.region id ops true).wp P Q a w :=
 wp_region_any hm (rJ _ _ _ _ h)
theorem kA:(∀{a:Act} {d:Tmp} {v:Value},a.put (some d) v=⟨a.tmps.setIfInBounds d v,a.defers⟩)/\(∀{a:Act} {v:Value},a.put none v=a)/\(∀{α:Type} {l:List α} {i:Nat} {a:α},l.toArray.setIfInBounds i a=(l.set i a).toArray)/\(∀{α:Type} {x a:α} {l:List α},(x::l).set 0 a=a::l)/\(∀{α:Type} {x a:α} {l:List α} {n:Nat},(x::l).set (n+1) a=x::l.set n a) :=
 ⟨rfl,rfl,List.setIfInBounds_toArray ..,vA ..,List.set_cons_succ ..⟩
def DA(md:Region.Mode)(ops:Array Oper)(k:Nat):Array Bool->List (Nat×Nat)->Bool
 |_,[]=>true
 |listed,x::r=>(match ops[x.1]? with|some o=>o.dst==some x.2|none=>false)&&Region.free md ops listed x.1&&(Region.ready md ops listed).contains x.1&&(x.1 != k)&&rU md ops k x.1&&DA md ops k (listed.setIfInBounds x.1 true) r
def vm:Array Bool->List (Nat×Nat)->Array Bool
 |l,[]=>l
 |l,x::r=>vm (l.setIfInBounds x.1 true) r
def m5(P:Program)(ops:Array Oper)(S:World->Prop)(Fin:Act->Prop):List (Nat×Nat)->Act->Prop
 |[],a=>Fin a
 |x::r,a=>∃o,ops[x.1]?=some o/\((Region.wanted o (yielded ops a.tmps)=true/\∃v,(∀w,S w->(execOp a.eval o).run P w=.ok (.value v) w)/\m5 P ops S Fin r (a.put (some x.2) v)) \/
   (Region.wanted o (yielded ops a.tmps)=false/\m5 P ops S Fin r (a.put (some x.2) undef)))
section
variable {Fin:Act->Prop} {r:List (Nat×Nat)} {a a':Act} {i d:Nat} {o:Oper} {v:Value}
theorem Ff(ho:ops[i]?=some o)(hw:Region.wanted o (yielded ops a.tmps)=true)(hy:∀w,S w->(execOp a.eval o).run P w=.ok (.value v) w)(hput:a.put (some d) v=a')(h:m5 P ops S Fin r a'):m5 P ops S Fin ((i,d)::r) a :=
 ⟨o,ho,.inl ⟨hw,v,hy,by rw[hput];exact h⟩⟩
theorem Eo(ho:ops[i]?=some o)(hw:Region.wanted o (yielded ops a.tmps)=false)(hput:a.put (some d) undef=a')(h:m5 P ops S Fin r a'):m5 P ops S Fin ((i,d)::r) a :=
 ⟨o,ho,.inr ⟨hw,by rw[hput];exact h⟩⟩
theorem Lh(h:Fin a):m5 P ops S Fin [] a:=h
theorem zT(h:m5 P ops S Fin r a')(how:ops[i]?=some o/\Region.wanted o (yielded ops a.tmps)=true:=by exact⟨rfl,rfl⟩)(y:∀w,S w->(execOp a.eval o).run P w=.ok (.value v) w:=by intro _ _;go_simp;try with_reducible rfl)(hput:a.put (some d) v=a':=by simp only[kA];exact rfl):m5 P ops S Fin ((i,d)::r) a:=Ff how.1 how.2 y hput h
theorem zK(how:ops[i]?=some o/\Region.wanted o (yielded ops a.tmps)=false)(hput:a.put (some d) undef=a')(h:m5 P ops S Fin r a'):m5 P ops S Fin ((i,d)::r) a:=Eo how.1 how.2 hput h
theorem zN(h:Fin a):m5 P ops S Fin [] a:=h
end
theorem ur(n:Nat)(idx:List (Nat×Nat)){a:Act}(hn:idx.length=n)(hok:DA md ops k listed idx=true)(hs:Region.noSelect ops=true)(hQ:∀c a (d:Tmp) v w,Q (.panic c) (a.put (some d) v) w->Q (.panic c) a w)(hS:S w)(h:m5 P ops S (fun a=>cM P md ops Q S k fuel (vm listed idx) a w) idx a):cM P md ops Q S k (fuel+n) listed a w:=by
 subst hn;induction idx generalizing listed a with
 |nil=>exact h
 |cons x r ih =>
  simp only[DA,yT]at hok;obtain⟨⟨⟨⟨⟨h1,h2⟩,h3⟩,h4⟩,h5⟩,h6⟩:=hok;obtain⟨o,ho,h⟩:=h;rw[ho]at h1;have hd:o.dst=some x.2:=by simpa using h1
  have h4':x.1≠k:=by simpa using h4
  rcases h with ⟨hw,v,hy,h⟩|⟨hw,h⟩
  ·rw[<-hd]at h;exact nZ ho (uE hs) (fun c a w hq=>hQ c a x.2 _ w (hd▸hq)) h4' (jP h5) (fuel+r.length) listed a w (Region.free_spec ho h2) (by simpa using h3) (.inl ⟨hw,hy⟩) hS (ih h6 h)
  ·rw[<-hd]at h;exact nZ ho (uE hs) (fun c a w hq=>hQ c a x.2 _ w (hd▸hq)) h4' (jP h5) (fuel+r.length) listed a w (Region.free_spec ho h2) (by simpa using h3) (.inr ⟨hw,rfl⟩) hS (ih h6 h)
theorem zS(n:Nat)(idx:List (Nat×Nat)){a:Act}(hS:S w)(h:m5 P ops S (fun a=>cM P md ops Q S k fuel (vm listed idx) a w) idx a)(hn:idx.length=n:=by exact rfl)(hok:DA md ops k listed idx=true:=by kernel_rfl)(hs:Region.noSelect ops=true:=by kernel_rfl)(hQ:∀c a (d:Tmp) v w,Q (.panic c) (a.put (some d) v) w->Q (.panic c) a w:=by exact fun _ _ _ _ _ h=>h) :
  cM P md ops Q S k (fuel+n) listed a w:=ur n idx hn hok hs hQ hS h
theorem zO(i:Nat){o:Oper}{a:Act}{w:World}(h:∀K':Act->World->Prop,Shut (∀a w,(i≠k->S w)->cM P md ops Q S k fuel (listed.setIfInBounds i true) a w->K' a w)->if Region.wanted o (yielded ops a.tmps)=true then Oper.wp P o a w K' Q else K' (a.put o.dst undef) w)(hr:Region.ready md ops listed=[i]:=by kernel_rfl)(ho:ops[i]?=some o:=by exact rfl):cM P md ops Q S k (fuel+1) listed a w:=Cw i hr ho h
theorem zD(h:Q .normal a w)(hr:Region.ready md ops listed=[]:=by kernel_rfl):cM P md ops Q S k fuel listed a w:=zc hr h fuel
theorem zR(k:Nat)(S:World->Prop)(h:cM P .any ops Q S k ops.size (Array.replicate ops.size false) a w.drew)(hm:P.follows .mixedOrders=true:=by kernel_rfl):(Code.region id ops true).wp P Q a w :=
 px k S hm h
end
theorem zQ{P:Program}{ops:Array Oper}{Q:Exit->Act->World->Prop}(k:Nat)(h:∀wd,ab w wd->cM P .any ops Q (fun w'=>ab w w') k ops.size (Array.replicate ops.size false) a wd)(hm:P.follows .mixedOrders=true:=by kernel_rfl):(Code.region id ops true).wp P Q a w :=
 px k _ hm (h _ (zE _).drew)
open _root_.Go.Proofs.Tryz
def wI(l:List F):List Int:=l.map fun c=>(c.n:Int)
theorem aT(l:List F):(wI l).length=l.length:=by simp[wI]
theorem DQ{l:List F}{k:Nat}{x:Int}(h:(wI l)[k]?=some x):∃c:F,l[k]?=some c/\x=(c.n:Int):=by unfold wI at h;rw[zP,yO]at h;obtain⟨c,h1,h2⟩:=h;exact⟨c,h1,h2.symm⟩
theorem tV(a b:List F):wI (a++b)=wI a++wI b:=by simp[wI]
theorem AM(a b:F)(w:World)(hT:cK w) :
  Calls prog 129 #[B C (a.n:Int),B C (b.n:Int)] w fun e w'=>e=.returned (B C ((a*b).n:Int))/\∃n,w'=w.drewN n:=by
 have ha:=a.lt;have hb:=b.lt;have h:=IK a.n b.n w hT (by omega) (by omega) (by omega) (by omega);rw[lC _ _ ha hb,<-F.n_mul]at h;exact h
theorem CB(a b:F)(w:World) :
  Calls prog 191 #[B C (a.n:Int),B C (b.n:Int)] w fun e w'=>e=.returned (B C ((a*b).n:Int))/\w'=w:=by
 have h:=D2 a.n b.n w a.lt b.lt;rw[lC _ _ a.lt b.lt,<-F.n_mul]at h;exact h
theorem AZ(m:Nat):An (m:Int)=((F.gp m).n:Int):=by rw[F.n_gp];unfold An;rw[show ((m:Int)%31).toNat=m%31 by omega]
theorem vf(m:Nat)(w:World)(hT:cK w)(h:m<=1000000) :
  Calls prog 178 #[B C (m:Int)] w fun e w'=>e=.returned (B C ((F.gp m).n:Int))/\w'=w:=by
 have:=Fa m w hT (by omega) (by omega);rw[AZ]at this;exact this
theorem yr(m:Nat)(w:World)(h:m<=1000000) :
  Calls prog 188 #[B C (m:Int)] w fun e w'=>e=.returned (B C ((F.gp m).n:Int))/\ab w w':=by
 have:=CA m w (by omega) (by omega);rw[AZ]at this;exact this
theorem Hj(a:F):sc (a.n:Int)=(a.inv.n:Int):=by
 have:=a.lt;unfold sc iU;rw[F.n_inv];by_cases h:a.n=0
 ·rw[if_neg (by simp[h]),if_pos h];rfl
 ·rw[if_pos (by simp;omega),if_neg h];simp
theorem EF(a:F)(w:World)(hT:cK w) :
  Calls prog 216 #[B C (a.n:Int)] w fun e w'=>e=.returned (B C (a.inv.n:Int))/\w'=w:=by
 have ha:=a.lt;have:=xx a.n w hT (by omega) (by omega);rw[Hj]at this;exact this
theorem Cm(a:F)(w:World) :
  Calls prog 190 #[B C (a.n:Int)] w fun e w'=>e=.returned (B C (a.inv.n:Int))/\w'=w:=by
 have ha:=a.lt;have:=tO a.n w (by omega) (by omega);rw[Hj]at this;exact this
theorem pD(a b:F):bits .xor .i64 (a.n:Int) (b.n:Int)=((a+b).n:Int):=by have ha:=a.lt;have hb:=b.lt;rw[zo _ _ (by omega) (by omega),F.n_add]
def eP(f:Nat->F)(n:Nat):Array Value:=((List.range n).map fun i=>Value.int .i64 ((f i).n:Int)).toArray
theorem jR{f:Nat->F}(h:i<n):(eP f n)[i]?=some (B C ((f i).n:Int)):=by unfold eP;rw[List.getElem?_toArray,zP,wJ h];rfl
theorem iw{f g:Nat->F}(h:∀i,i<n->f i=g i):eP f n=eP g n:=by unfold eP;congr 1;exact vK fun i hi=>by rw[h i (yX.1 hi)]
theorem Bz(f:Nat->F)(n i:Nat)(y:F):(eP f n).setIfInBounds i (B C (y.n:Int))=eP (fun k=>if k=i then y else f k) n:=by
 unfold eP;rw[List.setIfInBounds_toArray];congr 1
 apply xW;intro j;rcases zU j n with hj|hj
 ·rw[yD,zP,zP,wJ hj,zJ,wQ];by_cases e:i=j
  ·subst e;simp[hj]
  ·simp[e,Ne.symm e]
 ·rw[zC (by simpa using hj),zC (by simpa using hj)]
def aw(wd:List F)(i:Nat):F:=F.ev (F.gp (i+1)) wd
def nd(wd:List F)(j:Nat)(s:F):Nat->F:=fun i=>if i<j then aw wd i else if i=j then s else 0
theorem Jt{x:F}{wd:List F}{k:Nat}{c:F}(h:wd[k]?=some c):F.ev x (wd.drop k)=c*F.pwr x (wd.length-1-k)+F.ev x (wd.drop (k+1)):=by obtain⟨hk,rfl⟩:=zY.1 h;rw[vZ hk];simp only[F.ev,wD];rw[show wd.length-(k+1)=wd.length-1-k by omega]
theorem I9(v:Value)(wd:List F)(w:World)(hT:cK w)(hI:ak p w v (wI wd))(hn:wd.length<=1000) :
  Calls prog 148 #[v] w fun e w'=>e=.returned (.agg (eP (aw wd) 6))/\ab w w':=by
 have h0:=hI.re (zX w.heap.size);obtain⟨A,n,c,rfl,hnc,hc,hnn,HL⟩:=hI.open_;have HLn:Hid (wd.length=n):=by have:=HL.out;rw[aT]at this;exact this
 have hn1:n<=1000:=by have:=HLn.out;omega
 have HI:=zZ h0;have HT:=zZ hT;clear hI h0 hT hn;go_enter func148,ntmps148
 go_upto_region 2 with (fail)
 generalize hW:(w.alloc (.cells #[B C 0,B C 0,B C 0,B C 0,B C 0,B C 0] 169)).alloc (.cells #[B C 0,B C 0,B C 0,B C 0,B C 0,B C 0] 169)=W;have HE:Hid (ab w W):=by subst hW;exact ((zE w).alloc _).alloc _
 have HR:Hid (W.heap[w.heap.size]?=some (.cells #[B C 0,B C 0,B C 0,B C 0,B C 0,B C 0] 169 (0,0))):=by subst hW;exact ((zE _).alloc _).blk (heap_alloc_new w _)
 have HG:Hid (W.heap[w.heap.size+1]?=some (.cells (eP (nd wd 0 0) 6) 169 (0,0))):=by subst hW;have:=heap_alloc_new (w.alloc (.cells #[B C 0,B C 0,B C 0,B C 0,B C 0,B C 0] 169)) (.cells #[B C 0,B C 0,B C 0,B C 0,B C 0,B C 0] 169);rw[vW]at this;exact this
 clear hW;have HIW:=zZ ((HI.out.re (q:=w.heap.size+1) (by omega)).ext HE.out);have HTW:=zZ (HT.out.ext HE.out);have hg2:2<=w.heap.size+1:=by have:=HT.out.lt;omega
 clear HI HT;go_wp2_with fail;go_loopw [7] (fun s7 wr=>∃(j:Nat),s7=B C j/\j<=6/\Hid (wr.heap[w.heap.size+1]?=some (.cells (eP (nd wd j 0) 6) 169 (0,0))/\XT (w.heap.size+1) W wr)) (fun i _=>6-(intOf i).toNat)
 case atStart=>exact⟨0,rfl,by omega,HG.out,XT.refl _ _⟩
 case round =>
  obtain⟨j,rfl,hj,HJ⟩:=hrel;clear HG;by_cases hj6:j<6
  ·obtain⟨wo,rfl⟩:=nm (wr:World);have hd:decide ((j:Int)<6)=true:=by simp;omega
   go_wp2_with fail;go_loopw [12] (fun s12 wr=>∃(k:Nat),s12=B C k/\k<=n/\Hid (wr.heap[w.heap.size+1]?=some (.cells (eP (nd wd j (aw wd j+F.ev (F.gp (j+1)) (wd.drop k))) 6) 169 (0,0))/\XT (w.heap.size+1) W wr)) (fun i _=>n-(intOf i).toNat)
   case atStart=>exact⟨0,rfl,by omega,by rw[uZ];unfold aw;rw[F.add_self];exact HJ.out.1,HJ.out.2⟩
   case round =>
    clear HJ;obtain⟨k,rfl,hk,HK⟩:=hrel;by_cases hkn:k<n
    ·have HIr:=zZ (HIW.out.xt HK.out.2);have HTr:=zZ (HTW.out.xt HK.out.2 hg2);obtain⟨b,o,z,rfl,-⟩:=HIr.out.at_ hkn;obtain⟨z,hcz,HZ,-⟩:=HIr.out.cell_ hkn;obtain⟨cf,hcf,rfl⟩:=DQ HZ.out;generalize hs:aw wd j+F.ev (F.gp (j+1)) (wd.drop k)=sf at HK;have HS:=zZ hs;have HCF:=zZ hcf;clear hs hcf HZ;have hat:wr.cell? ⟨w.heap.size+1,j,none⟩=some (B C (sf.n:Int)):=ac HK.out.1 (by rw[jR hj6];simp[nd]);have hfz:wr.frozen? ⟨w.heap.size+1,j,none⟩=false:=ae HK.out.1 _;obtain⟨m,hm⟩:=nm ((j+1)*(n-1-k):Nat);have hm':((j:Int)+1)*((n:Int)-1-(k:Int))=(m:Int):=by
      rw[hm,Int.natCast_mul,show (((j+1:Nat)):Int)=(j:Int)+1 by omega,show (((n-1-k:Nat)):Int)=(n:Int)-1-(k:Int) by omega]
     have hmb:m<=10000:=by have h1:(j+1)*(n-1-k)<=6*1000:=Nat.mul_le_mul (by omega) (by omega);omega
     have hwm:Hid (IntKind.i64.wrap (IntKind.i64.wrap ((j:Int)+1)*IntKind.i64.wrap (IntKind.i64.wrap ((n:Int)-1)-(k:Int)))=(m:Int)):=by
      show _=_
      rw[yN ((j:Int)+1) (by omega),yN ((n:Int)-1) (by omega),yN ((n:Int)-1-(k:Int)) (by omega),hm'];exact yN _ (by omega)
     have HM:=zZ hm;clear hm hm';have hS:wr.drew.cell? ⟨w.heap.size+1,j,none⟩=some (B C (sf.n:Int)):=hat;replace hS:=zZ hS;have e1:(0:Int)<=(j:Int):=xT _;have e2:(j:Int)<6:=by omega
     go_upto_region 8 with (fail)
     refine zR 16 (fun w'=>w'.cell? ⟨w.heap.size+1,j,none⟩=some (B C (sf.n:Int))) ?_;refine zS 12 [(0,17),(1,18),(2,19),(3,20),(4,21),(5,22),(6,23),(7,24),(8,25),(9,26),(10,27),(11,28)] hS.out ?_;iterate 12 refine zT ?_
     refine zN (zO 12 (fun K hK=>?_));go_simp;rw[hwm.out];refine (vf m _ (HTr.out.ext (zE _).drew) (by omega)).mono ?_;rintro e x1 ⟨rfl,rfl⟩;refine hK.out _ _ (fun _=>hS.out) ?_;clear hK K;try simp only[kA]
     refine zO 13 (fun K hK=>?_);go_simp;refine (AM cf (F.gp m) _ (HTr.out.ext (zE _).drew)).mono ?_;rintro e x1 ⟨rfl,m2,hx1⟩;have HX1:Hid (ab wr x1):=by rw[hx1];exact (zE wr).drew.drewN m2
     clear hx1;replace hS:=zZ (HX1.out.cell hat);have hg3:=zZ (HX1.out.blk HK.out.1);replace hfz:=ae hg3.out j;replace hat:=hS.out;refine hK.out _ _ (fun _=>hS.out) ?_;clear hK K;try simp only[kA]
     refine zS 2 [(14,31),(15,32)] hS.out ?_;iterate 2 refine zT ?_
     refine zN (zO 16 (fun K hK=>?_));go_simp;refine hK.out _ _ (fun h=>absurd rfl h) ?_;clear hK K;refine zD ?_;rw[pD];have HG2:Hid ((x1.setCell ⟨w.heap.size+1,j,none⟩ (B C ((sf+cf*F.gp m).n:Int))).heap[w.heap.size+1]?=some (.cells (eP (nd wd j (aw wd j+F.ev (F.gp (j+1)) (wd.drop (k+1)))) 6) 169 (0,0))):=by
      have h:=bn (w:=x1) (i:=j) hg3.out (B C ((sf+cf*F.gp m).n:Int));rw[Bz]at h;show _=_
      rw[h];congr 2
      refine iw fun i _=>?_;unfold nd;by_cases e:i=j
      ·subst e;rw[if_pos rfl,if_neg (by omega),if_pos rfl,<-HS.out,Jt HCF.out,F.pwr_gp,HM.out,HLn.out,wM (n-1-k)];rw[F.add_assoc];congr 1
       rw[F.add_comm (cf*_),F.add_assoc,F.add_self,F.add_zero]
      ·rw[if_neg e,if_neg e,if_neg e]
     have HX2:Hid (XT (w.heap.size+1) W (x1.setCell ⟨w.heap.size+1,j,none⟩ (B C ((sf+cf*F.gp m).n:Int)))):=(HK.out.2.ext HX1.out).setCell rfl _;go_wp2_with fail;go_roundw
     case rel=>exact⟨k+1,by go_num,by omega,HG2.out,HX2.out⟩
     case measure=>simp[intOf];omega
    ·obtain rfl:k=n:=by omega
     go_wp2_with fail;go_roundw
     case rel =>
      refine⟨j+1,by go_num,by omega,?_,HK.out.2⟩;rw[HK.out.1,uF (by rw[HLn.out];exact zX _)];congr 2
      refine iw fun i hi=>?_;unfold nd;show (if i<j then _ else if i=j then aw wd j+0 else 0)=_
      rw[F.add_zero];by_cases e:i<j
      ·rw[if_pos e,if_pos (by omega)]
      ·rw[if_neg e];by_cases e2:i=j
       ·subst e2;rw[if_pos rfl,if_pos (by omega)]
       ·rw[if_neg e2,if_neg (by omega)];split<;>rfl
     case measure=>simp[intOf];omega
  ·obtain rfl:j=6:=by omega
   have hsy:Hid (eP (nd wd 6 0) 6=eP (aw wd) 6):=iw fun i hi=>by unfold nd;rw[if_pos hi]
   have g:∀i,i<6->wr.cell? ⟨w.heap.size+1,i,none⟩=some (B C ((aw wd i).n:Int)):=fun i hi=>ac HJ.out.1 (by rw[hsy.out,jR hi]);have HRr:=zZ (HJ.out.2.blk HR.out (by omega));have g0:=g 0 (by omega);have g1:=g 1 (by omega);have g2:=g 2 (by omega);have g3:=g 3 (by omega);have g4:=g 4 (by omega);have g5:=g 5 (by omega);have r0:=ac HRr.out (i:=0) rfl;have r1':=ac HRr.out (i:=1) rfl;have r2':=ac HRr.out (i:=2) rfl;have r3:=ac HRr.out (i:=3) rfl;have r4:=ac HRr.out (i:=4) rfl;have r5:=ac HRr.out (i:=5) rfl;have f0:=ae HRr.out 0;have f1:=ae HRr.out 1;have f2:=ae HRr.out 2;have f3:=ae HRr.out 3;have f4:=ae HRr.out 4;have f5:=ae HRr.out 5;clear g;go_wp2_with fail;refine bodyPost_ret (v:=.agg #[B C ((aw wd 0).n:Int),B C ((aw wd 1).n:Int),B C ((aw wd 2).n:Int),B C ((aw wd 3).n:Int),B C ((aw wd 4).n:Int),B C ((aw wd 5).n:Int)]) (by simp[results,results148,go_sem,r0,r1',r2',r3,r4,r5]) rfl ⟨rfl,?_⟩;have h1:=HJ.out.2.fresh HE.out (by omega);exact ab.setCell (ab.setCell (ab.setCell (ab.setCell (ab.setCell (ab.setCell h1 (by simp) _) (by simp) _) (by simp) _) (by simp) _) (by simp) _) (by simp) _
def sq(f x:Int):Bool:=decide (x<f)||decide (32<=x)
theorem pC(x f:Int)(g:Nat)(w:World)(hc:w.cell? ⟨g,0,none⟩=some (B C f)) :
  Calls prog 194 #[B C x,.pointer (some ⟨g,0,none⟩)] w fun e w'=>e=.returned (.bool (sq f x))/\w'=w:=by
 by_cases c1:x<f
 ·go_enter func194,ntmps194
  go_wp2
  go_ret
  exact⟨aa (by unfold sq;simp[c1]),rfl⟩
 ·go_enter func194,ntmps194
  go_wp2
  go_ret
  exact⟨aa (by unfold sq;rw[decide_eq_false (show ¬x<f by omega)];rfl),rfl⟩
theorem pF(x:Int)(w:World)(h:aU x) :
  Calls prog 126 #[B C x] w fun e w'=>e=.returned (.bool (!iU x))/\w'=w:=by
 obtain⟨h1,h2⟩:=h;go_enter func126,ntmps126
 go_wp2_with (go_at_call 127;refine (aV x _ h1 h2).mono ?_;rintro e w1 ⟨rfl,rfl⟩);go_ret
 exact⟨rfl,rfl⟩
theorem FG{P:Int->Bool}(hl:l.length=n)(h:∀j x,j<n->l[j]?=some x->P x=false):l.any P=false:=by rw[wO];intro x hx;obtain⟨j,hj,e⟩:=List.getElem_of_mem hx;rw[h j x (by omega) (by rw[zV hj,e])];simp
theorem Bo(v:Value)(l:List Int)(f:Int)(g:Nat)(w:World)(hI:ak p w v l)(hc:w.cell? ⟨g,0,none⟩=some (B C f)) :
  Calls prog 158 #[v,.func (.func 194) #[] #[.pointer (some ⟨g,0,none⟩)]] w fun e w'=>∃r,e=.returned (B C r)/\decide (0<=r)=l.any (sq f)/\w'=w:=by
 obtain⟨A,n,c,rfl,hnc,hcc,hnn,HL⟩:=hI.open_;have HI:=zZ hI;have HC:=zZ hc;clear hI hc;go_enter func158,ntmps158
 go_wp2_with fail;go_loopw [8] (fun i wr=>∃(k:Nat),i=B C k/\k<=n/\Hid (∀j x,j<k->l[j]?=some x->sq f x=false)/\wr=w) (fun i _=>n-(intOf i).toNat)
 case atStart=>exact⟨0,rfl,by omega,fun j x hj=>by omega,rfl⟩
 case round =>
  obtain⟨k,rfl,hk,HK,rfl⟩:=hrel;by_cases hkn:k<n
  ·obtain⟨b,o,z,rfl,-⟩:=HI.out.at_ hkn;obtain⟨z,hcz,HZ,-⟩:=HI.out.cell_ hkn;rcases yS (sq f z) with hb|hb
   ·go_wp2_with (go_at_call 194;refine (pC z f g _ HC.out).mono ?_;rintro e w1 ⟨rfl,rfl⟩;rw[hb]);go_ret
    exact⟨_,rfl,by rw[decide_eq_true (by omega)];exact (wZ.2 ⟨z,zW HZ.out,hb⟩).symm,rfl⟩
   ·go_wp2_with (go_at_call 194;refine (pC z f g _ HC.out).mono ?_;rintro e w1 ⟨rfl,rfl⟩;rw[hb]);go_roundw
    case rel =>
     refine⟨k+1,by go_num,by omega,fun j x hj hx=>?_,trivial⟩;by_cases e:j=k
     ·subst e;rw[HZ.out]at hx;injection hx with hx;subst hx;exact hb
     ·exact HK.out j x (by omega) hx
    case measure=>simp[intOf];omega
  ·obtain rfl:k=n:=by omega
   go_wp2_with fail;go_ret
   exact⟨_,rfl,by rw[FG HL.out HK.out];decide,rfl⟩
theorem rX(v:Value)(l:List Int)(f:Int)(g:Nat)(w:World)(hI:ak p w v l)(hc:w.cell? ⟨g,0,none⟩=some (B C f)) :
  Calls prog 115 #[v,.func (.func 194) #[] #[.pointer (some ⟨g,0,none⟩)]] w fun e w'=>e=.returned (.bool (l.any (sq f)))/\w'=w:=by
 obtain⟨A,n,c,rfl,-⟩:=hI.open_;have HI:=zZ hI;have HC:=zZ hc;clear hI hc;go_enter func115,ntmps115
 go_wp2_with (go_at_call 158;refine (Bo _ l f g _ HI.out HC.out).mono ?_;rintro e w1 ⟨r,rfl,hr,rfl⟩);go_ret
 exact⟨rfl,rfl⟩
theorem Af(v:Value)(l:List Int)(w:World)(hI:ak p w v l) :
  Calls prog 158 #[v,.func (.func 126) #[] #[]] w fun e w'=>∃r,e=.returned (B C r)/\decide (0<=r)=(l.any fun x=>!iU x)/\w'=w:=by
 obtain⟨A,n,c,rfl,hnc,hcc,hnn,HL⟩:=hI.open_;have HI:=zZ hI;clear hI;go_enter func158,ntmps158
 go_wp2_with fail;go_loopw [8] (fun i wr=>∃(k:Nat),i=B C k/\k<=n/\Hid (∀j x,j<k->l[j]?=some x->(!iU x)=false)/\wr=w) (fun i _=>n-(intOf i).toNat)
 case atStart=>exact⟨0,rfl,by omega,fun j x hj=>by omega,rfl⟩
 case round =>
  obtain⟨k,rfl,hk,HK,rfl⟩:=hrel;by_cases hkn:k<n
  ·obtain⟨b,o,z,rfl,-⟩:=HI.out.at_ hkn;obtain⟨z,hcz,HZ,z1,z2⟩:=HI.out.cell_ hkn;rcases yS (!iU z) with hb|hb
   ·go_wp2_with (go_at_call 126;refine (pF z _ ⟨z1,z2⟩).mono ?_;rintro e w1 ⟨rfl,rfl⟩;rw[hb]);go_ret
    exact⟨_,rfl,by rw[decide_eq_true (by omega)];exact (wZ.2 ⟨z,zW HZ.out,hb⟩).symm,rfl⟩
   ·go_wp2_with (go_at_call 126;refine (pF z _ ⟨z1,z2⟩).mono ?_;rintro e w1 ⟨rfl,rfl⟩;rw[hb]);go_roundw
    case rel =>
     refine⟨k+1,by go_num,by omega,fun j x hj hx=>?_,trivial⟩;by_cases e:j=k
     ·subst e;rw[HZ.out]at hx;injection hx with hx;subst hx;exact hb
     ·exact HK.out j x (by omega) hx
    case measure=>simp[intOf];omega
  ·obtain rfl:k=n:=by omega
   go_wp2_with fail;go_ret
   exact⟨_,rfl,by rw[FG HL.out HK.out];decide,rfl⟩
theorem km(v:Value)(l:List Int)(w:World)(hI:ak p w v l) :
  Calls prog 115 #[v,.func (.func 126) #[] #[]] w fun e w'=>e=.returned (.bool (l.any fun x=>!iU x))/\w'=w:=by
 obtain⟨A,n,c,rfl,-⟩:=hI.open_;have HI:=zZ hI;clear hI;go_enter func115,ntmps115
 go_wp2_with (go_at_call 158;refine (Af _ l _ HI.out).mono ?_;rintro e w1 ⟨r,rfl,hr,rfl⟩);go_ret
 exact⟨rfl,rfl⟩
def cD(f:Int)(l:List Int):Bool:=decide (7<=l.length)&&(decide (l.length<=15)&&!l.any (sq f))
theorem qB(v:Value)(l:List Int)(f:Int)(w:World)(hI:ak p w v l) :
  Calls prog 147 #[v,B C f] w fun e w'=>e=.returned (.bool (cD f l))/\ab w w':=by
 obtain⟨A,n,c,rfl,hnc,hc,hnn,HL⟩:=hI.open_;have HI:=zZ hI;clear hI;by_cases h7:7<=n
 ·by_cases h15:n<=15
  ·go_enter func147,ntmps147
   go_wp2_with (go_at_call 115;refine (rX _ l f w.heap.size _ (HI.out.ext ((zE _).alloc _)) (ac (heap_alloc_new w _) (i:=0) rfl)).mono ?_;rintro e w1 ⟨rfl,rfl⟩);go_ret
   exact⟨aa (by unfold cD;rw[HL.out];simp[h7,h15]),(zE _).alloc _⟩
  ·go_enter func147,ntmps147
   go_wp2_with fail;go_ret
   exact⟨aa (by unfold cD;rw[HL.out];simp[h15]),(zE _).alloc _⟩
 ·go_enter func147,ntmps147
  go_wp2_with fail;go_ret
  exact⟨aa (by unfold cD;rw[HL.out];simp[h7]),(zE _).alloc _⟩
def bv(l:List Int):List F:=l.map fun x=>F.mk (x.toNat%32) (xI _ (by decide))
theorem bt(l:List Int):(bv l).length=l.length:=by simp[bv]
theorem ww(h:∀x∈l,0<=x/\x<32):wI (bv l)=l:=by
 unfold wI bv;rw[vY];refine (vK (g:=id) fun x hx=>?_).trans (List.map_id l);have:=h x hx;show ((x.toNat%32:Nat):Int)=x
 omega
theorem tP(l:List F):bv (wI l)=l:=by
 unfold wI bv;rw[vY];refine (vK (g:=id) fun x _=>F.ext ?_).trans (List.map_id l);have:=x.lt;show ((x.n:Int)).toNat%32=x.n
 omega
theorem ew{f:Int}(h:cD f l=true):7<=l.length/\l.length<=15/\∀x∈l,f<=x/\x<32:=by unfold cD at h;simp only[yT,decide_eq_true_eq,uY,wO]at h;refine⟨h.1,h.2.1,fun x hx=>?_⟩;have:=h.2.2 x hx;unfold sq at this;simp only[Bool.or_eq_true,decide_eq_true_eq]at this;omega
theorem mO{f:Int}(h1:7<=l.length)(h2:l.length<=15)(h:∀x∈l,f<=x/\x<32):cD f l=true:=by unfold cD;simp only[yT,decide_eq_true_eq,uY,wO];refine⟨h1,h2,fun x hx=>?_⟩;have:=h x hx;unfold sq;simp only[Bool.or_eq_true,decide_eq_true_eq];omega
def iG(l:List Int):Bool:=cD 0 l&&(aw (bv l) 0==0&&(aw (bv l) 1==0&&(aw (bv l) 2==0&&(aw (bv l) 3==0&&(aw (bv l) 4==0&&aw (bv l) 5==0)))))
theorem lk(a:F):((a.n:Int)==0)=(a==0):=by
 by_cases h:a=0
 ·subst h;simp[F.n_zero]
 ·have:a.n≠0:=fun e=>h (F.ext e);rw[beq_eq_false_iff_ne.2 h,beq_eq_false_iff_ne.2 (by omega)]
theorem qG(wd:List F):(aw wd 0==0&&(aw wd 1==0&&(aw wd 2==0&&(aw wd 3==0&&(aw wd 4==0&&aw wd 5==0)))))=true↔F.Code wd:=by
 simp only[yT,beq_iff_eq];constructor
 ·rintro⟨h0,h1,h2,h3,h4,h5⟩ j j1 j2;have:j=1\/j=2\/j=3\/j=4\/j=5\/j=6:=by omega
  rcases this with rfl|rfl|rfl|rfl|rfl|rfl
  ·exact h0
  ·exact h1
  ·exact h2
  ·exact h3
  ·exact h4
  ·exact h5
 ·intro h;exact⟨h 1 (by omega) (by omega),h 2 (by omega) (by omega),h 3 (by omega) (by omega),h 4 (by omega) (by omega),h 5 (by omega) (by omega),h 6 (by omega) (by omega)⟩
theorem Gy(f:Nat->F):eP f 6=#[B C ((f 0).n:Int),B C ((f 1).n:Int),B C ((f 2).n:Int),B C ((f 3).n:Int),B C ((f 4).n:Int),B C ((f 5).n:Int)]:=rfl
theorem G9(v:Value)(wd:List F)(w:World)(hT:cK w)(hI:ak p w v (wI wd))(hn:wd.length<=1000) :
  Calls prog 148 #[v] w fun e w'=>e=.returned (.agg #[B C ((aw wd 0).n:Int),B C ((aw wd 1).n:Int),B C ((aw wd 2).n:Int),B C ((aw wd 3).n:Int),B C ((aw wd 4).n:Int),B C ((aw wd 5).n:Int)])/\ab w w':=by
 have h:=I9 v wd w hT hI hn;rw[Gy]at h;exact h
theorem zkc2{w w':World}{a0 a1:Addr}{u0 u1:Value}(h:ab w w')(e0:w.cell? a0=some u0)(e1:w.cell? a1=some u1):w'.cell? a0=some u0/\w'.cell? a1=some u1:=⟨h.cell e0,h.cell e1⟩
theorem zkc3{w w':World}{a0 a1 a2:Addr}{u0 u1 u2:Value}(h:ab w w')(e0:w.cell? a0=some u0)(e1:w.cell? a1=some u1)(e2:w.cell? a2=some u2):w'.cell? a0=some u0/\w'.cell? a1=some u1/\w'.cell? a2=some u2:=⟨h.cell e0,h.cell e1,h.cell e2⟩
theorem zkc4{w w':World}{a0 a1 a2 a3:Addr}{u0 u1 u2 u3:Value}(h:ab w w')(e0:w.cell? a0=some u0)(e1:w.cell? a1=some u1)(e2:w.cell? a2=some u2)(e3:w.cell? a3=some u3):w'.cell? a0=some u0/\w'.cell? a1=some u1/\w'.cell? a2=some u2/\w'.cell? a3=some u3:=⟨h.cell e0,h.cell e1,h.cell e2,h.cell e3⟩
theorem zkc5{w w':World}{a0 a1 a2 a3 a4:Addr}{u0 u1 u2 u3 u4:Value}(h:ab w w')(e0:w.cell? a0=some u0)(e1:w.cell? a1=some u1)(e2:w.cell? a2=some u2)(e3:w.cell? a3=some u3)(e4:w.cell? a4=some u4):w'.cell? a0=some u0/\w'.cell? a1=some u1/\w'.cell? a2=some u2/\w'.cell? a3=some u3/\w'.cell? a4=some u4:=⟨h.cell e0,h.cell e1,h.cell e2,h.cell e3,h.cell e4⟩
theorem zkc6{w w':World}{a0 a1 a2 a3 a4 a5:Addr}{u0 u1 u2 u3 u4 u5:Value}(h:ab w w')(e0:w.cell? a0=some u0)(e1:w.cell? a1=some u1)(e2:w.cell? a2=some u2)(e3:w.cell? a3=some u3)(e4:w.cell? a4=some u4)(e5:w.cell? a5=some u5):w'.cell? a0=some u0/\w'.cell? a1=some u1/\w'.cell? a2=some u2/\w'.cell? a3=some u3/\w'.cell? a4=some u4/\w'.cell? a5=some u5:=⟨h.cell e0,h.cell e1,h.cell e2,h.cell e3,h.cell e4,h.cell e5⟩
theorem zkc7{w w':World}{a0 a1 a2 a3 a4 a5 a6:Addr}{u0 u1 u2 u3 u4 u5 u6:Value}(h:ab w w')(e0:w.cell? a0=some u0)(e1:w.cell? a1=some u1)(e2:w.cell? a2=some u2)(e3:w.cell? a3=some u3)(e4:w.cell? a4=some u4)(e5:w.cell? a5=some u5)(e6:w.cell? a6=some u6):w'.cell? a0=some u0/\w'.cell? a1=some u1/\w'.cell? a2=some u2/\w'.cell? a3=some u3/\w'.cell? a4=some u4/\w'.cell? a5=some u5/\w'.cell? a6=some u6:=⟨h.cell e0,h.cell e1,h.cell e2,h.cell e3,h.cell e4,h.cell e5,h.cell e6⟩
theorem zkc8{w w':World}{a0 a1 a2 a3 a4 a5 a6 a7:Addr}{u0 u1 u2 u3 u4 u5 u6 u7:Value}(h:ab w w')(e0:w.cell? a0=some u0)(e1:w.cell? a1=some u1)(e2:w.cell? a2=some u2)(e3:w.cell? a3=some u3)(e4:w.cell? a4=some u4)(e5:w.cell? a5=some u5)(e6:w.cell? a6=some u6)(e7:w.cell? a7=some u7):w'.cell? a0=some u0/\w'.cell? a1=some u1/\w'.cell? a2=some u2/\w'.cell? a3=some u3/\w'.cell? a4=some u4/\w'.cell? a5=some u5/\w'.cell? a6=some u6/\w'.cell? a7=some u7:=⟨h.cell e0,h.cell e1,h.cell e2,h.cell e3,h.cell e4,h.cell e5,h.cell e6,h.cell e7⟩
end Go.Proofs.YtkaajgoeahahpaaGreatDoor

