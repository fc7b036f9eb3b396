import Derived.Test.YtjgfgdcaocbfhaaGreatH3
set_option linter.all false
set_option maxRecDepth 100000
set_option maxHeartbeats 0
namespace Go.Proofs.YtjgfgdcaocbfhaaGreat
open Go.Value renaming int→B
open Go.IntKind renaming i64→C
open Go.RowKit
variable {fuel i id:Nat} {v:Value} {listed:Array Bool} {a:Act} {w:World}
section
variable {P:Program} {ops:Array Oper} {Q:Exit→Act→World→Prop} {md:Region.Mode} {S:World→Prop} {k:Nat}
def cV(P:Program)(md:Region.Mode)(ops:Array Oper)(Q:Exit→Act→World→Prop)(S:World→Prop)(k:Nat):Nat→Array Bool→Act→World→Prop
 |0,listed,a,w=>Region.ready md ops listed=[]∧Q .normal a w
 |fuel+1,listed,a,w =>
  (Region.ready md ops listed=[]→Q .normal a w) ∧
  ∀i∈Region.ready md ops listed,wpOp P ops Q i (fun a' w'=>(i≠k→S w')∧cV P md ops Q S k fuel (listed.setIfInBounds i true) a' w') a w
theorem nZ:∀(fuel:Nat) (listed:Array Bool) (a:Act) (w:World),cV P md ops Q S k fuel listed a w→wpAny P md ops Q fuel listed a w
 |0,_,_,_,h=>h
 |fuel+1,_,_,_,h=>⟨h.1,fun i hi=>wpOp_mono (fun a' w' h'=>nZ fuel _ a' w' h'.2) (h.2 i hi)⟩
theorem lW{oi:Oper}(hi:ops[i]?=some oi)(hsel:∀(j:Nat) (o:Oper) cs b,ops[j]?=some o→o.op≠.select cs b)(hQ:∀c a w,Q (.panic c) (a.put oi.dst v) w→Q (.panic c) a w)(hik:i≠k)(hkw:∀ok,ops[k]?=some ok→∃e∈ok.after,Region.binds md e=true∧e.on=i) :
  ∀(fuel:Nat) (listed:Array Bool) (a:Act) (w:World),
   (∀j oj,ops[j]?=some oj→j≠i→listed.getD j true=false→(∀e∈oj.after,Region.binds md e=true→e.on≠i)→oi.apart ops oj=true) →
   i∈Region.ready md ops listed→YieldsIf P ops S oi v a→S w →
   cV P md ops Q S k fuel (listed.setIfInBounds i true) (a.put oi.dst v) w→cV P md ops Q S k (fuel+1) listed a w:=by
 intro fuel;induction fuel with
 |zero =>
  intro listed a w _ hr hy hS H;refine⟨fun h=>(by rw[h]at hr;cases hr),fun j hj=>?_⟩;by_cases hji:j=i
  ·subst hji;exact hy.wpOp hi hS ⟨fun _=>hS,H⟩
  ·have:=ready_mono hj hji;rw[H.1]at this;cases this
 |succ fuel ih =>
  intro listed a w hfree hr hy hS H;refine⟨fun h=>(by rw[h]at hr;cases hr),fun j hj=>?_⟩;by_cases hji:j=i
  ·subst hji;exact hy.wpOp hi hS ⟨fun _=>hS,H⟩
  ·have h1:=H.2 j (ready_mono hj hji);obtain⟨hjun,oj,hoj,hall⟩:=mem_ready.1 hj;have hnot:∀e∈oj.after,Region.binds md e=true→e.on≠i:=fun e he hb heq=>by
    have h1:=hall e he hb;have h0:=(mem_ready.1 hr).1;rw[heq]at h1;rcases zV i listed.size with h'|h'
    ·simp[h']at h0 h1;rw[h0]at h1;cases h1
    ·simp[yM h']at h1
   have hjk:j≠k:=fun e=>by subst e;obtain⟨x,hx,hb,ho⟩:=hkw oj hoj;exact hnot x hx hb ho
   have h2:=wpOp_putIf hoj (hfree j oj hoj hji hjun hnot) (fun cs b=>hsel i oi cs b hi) (fun cs b=>hsel j oj cs b hoj) hQ hy h1;have hfree':∀m om,ops[m]?=some om→m≠i→(listed.setIfInBounds j true).getD m true=false →
     (∀e∈om.after,Region.binds md e=true→e.on≠i)→oi.apart ops om=true:=fun m om hm hmi hun hno=>by
    refine hfree m om hm hmi ?_ hno;by_cases hjm:j=m
    ·subst hjm;exact hjun
    ·rw[getD_set_ne true hjm]at hun;exact hun
   refine wpOp_mono (fun a' w' h3=>⟨h3.2.1,ih (listed.setIfInBounds j true) a' w' hfree' (ready_mono hr (Ne.symm hji)) h3.1 (h3.2.1 hjk) ?_⟩) h2;rw[Array.setIfInBounds_comm _ _ hji];exact h3.2.2
def sh(md:Region.Mode)(ops:Array Oper)(k i:Nat):Bool:=match ops[k]? with|some o=>o.after.toList.any fun e=>Region.binds md e&&e.on==i|none=>true
theorem kF(h:sh md ops k i=true):∀ok,ops[k]?=some ok→∃e∈ok.after,Region.binds md e=true∧e.on=i:=by intro ok hk;unfold sh at h;rw[hk]at h;simp only[xJ,yY,beq_iff_eq]at h;obtain⟨e,he,hb,ho⟩:=h;exact⟨e,by simpa using he,hb,ho⟩
theorem wh(i:Nat){o:Oper}{a:Act}{w:World}(hr:Region.ready md ops listed=[i])(ho:ops[i]?=some o)(h:∀K':Act→World→Prop,Shut (∀a w,(i≠k→S w)→cV P md ops Q S k fuel (listed.setIfInBounds i true) a w→K' a w)→if Region.wanted o (yielded ops a.tmps)=true then Oper.wp P o a w K' Q else K' (a.put o.dst undef) w) :
  cV P md ops Q S k (fuel+1) listed a w:=by
 refine⟨fun h0=>(by rw[hr]at h0;cases h0),fun j hj=>?_⟩;rw[hr]at hj;obtain rfl:j=i:=by simpa using hj
 exact wpOp_step ho (fun K' hK=>h K' (fun a w hS hW=>hK a w ⟨hS,hW⟩))
theorem tG{listed:Array Bool}{a:Act}{w:World}(hr:Region.ready md ops listed=[])(h:Q .normal a w) :
  ∀fuel,cV P md ops Q S k fuel listed a w
 |0=>⟨hr,h⟩
 |_+1=>⟨fun _=>h,by rw[hr];simp⟩
theorem mV(k:Nat)(S:World→Prop)(hm:P.follows .mixedOrders=true)(h:cV P .any ops Q S k ops.size (Array.replicate ops.size false) a w.drew):(Code.region id ops true).wp P Q a w :=
 wp_region_any hm (nZ _ _ _ _ h)
theorem kA:(∀{a:Act} {d:Tmp} {v:Value},a.put (some d) v=⟨a.tmps.setIfInBounds d v,a.defers⟩)∧(∀{a:Act} {v:Value},a.put none v=a)∧(∀{α:Type} {l:List α} {i:Nat} {a:α},l.toArray.setIfInBounds i a=(l.set i a).toArray)∧(∀{α:Type} {x a:α} {l:List α},(x::l).set 0 a=a::l)∧(∀{α:Type} {x a:α} {l:List α} {n:Nat},(x::l).set (n+1) a=x::l.set n a) :=
 ⟨rfl,rfl,List.setIfInBounds_toArray ..,List.set_cons_zero ..,List.set_cons_succ ..⟩
def AA(md:Region.Mode)(ops:Array Oper)(k:Nat):Array Bool→List (Nat×Nat)→Bool
 |_,[]=>true
 |listed,x::r=>(match ops[x.1]? with|some o=>o.dst==some x.2|none=>false)&&Region.free md ops listed x.1&&(Region.ready md ops listed).contains x.1&&(x.1 != k)&&sh md ops k x.1&&AA md ops k (listed.setIfInBounds x.1 true) r
def rC:Array Bool→List (Nat×Nat)→Array Bool
 |l,[]=>l
 |l,x::r=>rC (l.setIfInBounds x.1 true) r
def lb(P:Program)(ops:Array Oper)(S:World→Prop)(Fin:Act→Prop):List (Nat×Nat)→Act→Prop
 |[],a=>Fin a
 |x::r,a=>∃o,ops[x.1]?=some o∧((Region.wanted o (yielded ops a.tmps)=true∧∃v,(∀w,S w→(execOp a.eval o).run P w=.ok (.value v) w)∧lb P ops S Fin r (a.put (some x.2) v)) ∨
   (Region.wanted o (yielded ops a.tmps)=false∧lb P ops S Fin r (a.put (some x.2) undef)))
section
variable {Fin:Act→Prop} {r:List (Nat×Nat)} {a a':Act} {i d:Nat} {o:Oper} {v:Value}
theorem BS(ho:ops[i]?=some o)(hw:Region.wanted o (yielded ops a.tmps)=true)(hy:∀w,S w→(execOp a.eval o).run P w=.ok (.value v) w)(hput:a.put (some d) v=a')(h:lb P ops S Fin r a'):lb P ops S Fin ((i,d)::r) a :=
 ⟨o,ho,.inl ⟨hw,v,hy,by rw[hput];exact h⟩⟩
theorem Cy(ho:ops[i]?=some o)(hw:Region.wanted o (yielded ops a.tmps)=false)(hput:a.put (some d) undef=a')(h:lb P ops S Fin r a'):lb P ops S Fin ((i,d)::r) a :=
 ⟨o,ho,.inr ⟨hw,by rw[hput];exact h⟩⟩
theorem Hr(h:Fin a):lb P ops S Fin [] a:=h
theorem zT(how:ops[i]?=some o∧Region.wanted o (yielded ops a.tmps)=true)(y:∀w,S w→(execOp a.eval o).run P w=.ok (.value v) w)(hput:a.put (some d) v=a')(h:lb P ops S Fin r a'):lb P ops S Fin ((i,d)::r) a:=BS how.1 how.2 y hput h
theorem zK(how:ops[i]?=some o∧Region.wanted o (yielded ops a.tmps)=false)(hput:a.put (some d) undef=a')(h:lb P ops S Fin r a'):lb P ops S Fin ((i,d)::r) a:=Cy how.1 how.2 hput h
theorem zN(h:Fin a):lb P ops S Fin [] a:=h
end
theorem rX(n:Nat)(idx:List (Nat×Nat)){a:Act}(hn:idx.length=n)(hok:AA md ops k listed idx=true)(hs:Region.noSelect ops=true)(hQ:∀c a (d:Tmp) v w,Q (.panic c) (a.put (some d) v) w→Q (.panic c) a w)(hS:S w)(h:lb P ops S (fun a=>cV P md ops Q S k fuel (rC listed idx) a w) idx a):cV P md ops Q S k (fuel+n) listed a w:=by
 subst hn;induction idx generalizing listed a with
 |nil=>exact h
 |cons x r ih =>
  simp only[AA,yY]at hok;obtain⟨⟨⟨⟨⟨h1,h2⟩,h3⟩,h4⟩,h5⟩,h6⟩:=hok;obtain⟨o,ho,h⟩:=h;rw[ho]at h1;have hd:o.dst=some x.2:=by simpa using h1
  have h4':x.1≠k:=by simpa using h4
  rcases h with ⟨hw,v,hy,h⟩|⟨hw,h⟩
  ·rw[←hd]at h;exact lW ho (Region.noSelect_spec hs) (fun c a w hq=>hQ c a x.2 _ w (hd▸hq)) h4' (kF h5) (fuel+r.length) listed a w (Region.free_spec ho h2) (by simpa using h3) (.inl ⟨hw,hy⟩) hS (ih h6 h)
  ·rw[←hd]at h;exact lW ho (Region.noSelect_spec hs) (fun c a w hq=>hQ c a x.2 _ w (hd▸hq)) h4' (kF h5) (fuel+r.length) listed a w (Region.free_spec ho h2) (by simpa using h3) (.inr ⟨hw,rfl⟩) hS (ih h6 h)
theorem zS(n:Nat)(idx:List (Nat×Nat)){a:Act}(hS:S w)(h:lb P ops S (fun a=>cV P md ops Q S k fuel (rC listed idx) a w) idx a)(hn:idx.length=n:=by exact rfl)(hok:AA md ops k listed idx=true:=by kernel_rfl)(hs:Region.noSelect ops=true:=by kernel_rfl)(hQ:∀c a (d:Tmp) v w,Q (.panic c) (a.put (some d) v) w→Q (.panic c) a w:=by exact fun _ _ _ _ _ h=>h) :
  cV P md ops Q S k (fuel+n) listed a w:=rX n idx hn hok hs hQ hS h
theorem zO(i:Nat){o:Oper}{a:Act}{w:World}(h:∀K':Act→World→Prop,Shut (∀a w,(i≠k→S w)→cV P md ops Q S k fuel (listed.setIfInBounds i true) a w→K' a w)→if Region.wanted o (yielded ops a.tmps)=true then Oper.wp P o a w K' Q else K' (a.put o.dst undef) w)(hr:Region.ready md ops listed=[i]:=by kernel_rfl)(ho:ops[i]?=some o:=by exact rfl):cV P md ops Q S k (fuel+1) listed a w:=wh i hr ho h
theorem zD(h:Q .normal a w)(hr:Region.ready md ops listed=[]:=by kernel_rfl):cV P md ops Q S k fuel listed a w:=tG hr h fuel
theorem zR(k:Nat)(S:World→Prop)(h:cV P .any ops Q S k ops.size (Array.replicate ops.size false) a w.drew)(hm:P.follows .mixedOrders=true:=by kernel_rfl):(Code.region id ops true).wp P Q a w :=
 mV k S hm h
end
theorem zQ{P:Program}{ops:Array Oper}{Q:Exit→Act→World→Prop}(k:Nat)(h:∀wd,ab w wd→cV P .any ops Q (fun w'=>ab w w') k ops.size (Array.replicate ops.size false) a wd)(hm:P.follows .mixedOrders=true:=by kernel_rfl):(Code.region id ops true).wp P Q a w :=
 mV k _ hm (h _ (zE _).drew)
section
variable {P:Program} {ops:Array Oper} {Q:Exit→Act→World→Prop} {md:Region.Mode} {S:World→Prop} {k:Nat}
theorem gC{j k:Nat}(h:j≠k):(listed.setIfInBounds j true).getD k false=listed.getD k false:=by simp[wZ,h]
theorem dV{b:Bool}{X:Prop}(h:b=true):b=false→X:=fun h'=>by rw[h]at h';cases h'
end
section
variable {P:Program} {ops:Array Oper} {Q:Exit→Act→World→Prop} {md:Region.Mode} {SS:Array Bool→World→Prop}
def fe(P:Program)(md:Region.Mode)(ops:Array Oper)(Q:Exit→Act→World→Prop)(SS:Array Bool→World→Prop):Nat→Array Bool→Act→World→Prop
 |0,listed,a,w=>Region.ready md ops listed=[]∧Q .normal a w
 |fuel+1,listed,a,w =>
  (Region.ready md ops listed=[]→Q .normal a w) ∧
  ∀i∈Region.ready md ops listed,wpOp P ops Q i (fun a' w'=>SS (listed.setIfInBounds i true) w'∧fe P md ops Q SS fuel (listed.setIfInBounds i true) a' w') a w
theorem ov:∀(fuel:Nat) (listed:Array Bool) (a:Act) (w:World),fe P md ops Q SS fuel listed a w→wpAny P md ops Q fuel listed a w
 |0,_,_,_,h=>h
 |fuel+1,_,_,_,h=>⟨h.1,fun i hi=>wpOp_mono (fun a' w' h'=>ov fuel _ a' w' h'.2) (h.2 i hi)⟩
theorem rS{kk:Nat}{oi:Oper}{U:World→Prop}(hi:ops[i]?=some oi)(hsel:∀(j:Nat) (o:Oper) cs b,ops[j]?=some o→o.op≠.select cs b)(hQ:∀c a w,Q (.panic c) (a.put oi.dst v) w→Q (.panic c) a w)(hkw:∀ok,ops[kk]?=some ok→∃e∈ok.after,Region.binds md e=true∧e.on=i)(hU:∀l w,l.getD kk false=false→SS l w→U w)(hp:∀l w,SS (l.setIfInBounds i true) w↔SS l w) :
  ∀(fuel:Nat) (listed:Array Bool) (a:Act) (w:World),
   (∀j oj,ops[j]?=some oj→j≠i→listed.getD j true=false→(∀e∈oj.after,Region.binds md e=true→e.on≠i)→oi.apart ops oj=true) →
   i∈Region.ready md ops listed→YieldsIf P ops U oi v a→listed.getD kk false=false→SS listed w →
   fe P md ops Q SS fuel (listed.setIfInBounds i true) (a.put oi.dst v) w→fe P md ops Q SS (fuel+1) listed a w:=by
 intro fuel;induction fuel with
 |zero =>
  intro listed a w _ hr hy hu hS H;refine⟨fun h=>(by rw[h]at hr;cases hr),fun j hj=>?_⟩;by_cases hji:j=i
  ·subst hji;exact hy.wpOp hi (hU _ _ hu hS) ⟨(hp _ _).2 hS,H⟩
  ·have:=ready_mono hj hji;rw[H.1]at this;cases this
 |succ fuel ih =>
  intro listed a w hfree hr hy hu hS H;refine⟨fun h=>(by rw[h]at hr;cases hr),fun j hj=>?_⟩;by_cases hji:j=i
  ·subst hji;exact hy.wpOp hi (hU _ _ hu hS) ⟨(hp _ _).2 hS,H⟩
  ·have hh:=H.2 j (ready_mono hj hji);obtain⟨hjun,oj,hoj,hall⟩:=mem_ready.1 hj;have hnot:∀e∈oj.after,Region.binds md e=true→e.on≠i:=fun e he hb heq=>by
    have h1:=hall e he hb;have h0:=(mem_ready.1 hr).1;rw[heq]at h1;rcases zV i listed.size with h'|h'
    ·simp[h']at h0 h1;rw[h0]at h1;cases h1
    ·simp[yM h']at h1
   have hjk:j≠kk:=fun e=>by subst e;obtain⟨x,hx,hb,ho⟩:=hkw oj hoj;exact hnot x hx hb ho
   have h2:=wpOp_putIf hoj (hfree j oj hoj hji hjun hnot) (fun cs b=>hsel i oi cs b hi) (fun cs b=>hsel j oj cs b hoj) hQ hy hh;have hfree':∀m om,ops[m]?=some om→m≠i→(listed.setIfInBounds j true).getD m true=false →
     (∀e∈om.after,Region.binds md e=true→e.on≠i)→oi.apart ops om=true:=fun m om hm hmi hun hno=>by
    refine hfree m om hm hmi ?_ hno;by_cases hjm:j=m
    ·subst hjm;exact hjun
    ·rw[getD_set_ne true hjm]at hun;exact hun
   have hcomm:∀l:Array Bool,(l.setIfInBounds i true).setIfInBounds j true=(l.setIfInBounds j true).setIfInBounds i true:=fun l=>Array.setIfInBounds_comm _ _ (Ne.symm hji);refine wpOp_mono (fun a' w' h3=>?_) h2;obtain⟨h4,h5,h6⟩:_∧SS ((listed.setIfInBounds i true).setIfInBounds j true) w'∧fe P md ops Q SS fuel ((listed.setIfInBounds i true).setIfInBounds j true) (a'.put oi.dst v) w':=⟨h3.1,h3.2.1,h3.2.2⟩
   rw[hcomm]at h5 h6;have h7:=(hp _ _).1 h5;exact⟨h7,ih (listed.setIfInBounds j true) a' w' hfree' (ready_mono hr (Ne.symm hji)) h4 (by rw[gC hjk];exact hu) h7 h6⟩
theorem aG(U:World→Prop)(kk i:Nat)(d:Option Tmp){oi:Oper}{a:Act}{w:World}(hi:ops[i]?=some oi)(hd:oi.dst=d)(hs:Region.noSelect ops=true)(hf:Region.free md ops listed i=true)(hr:(Region.ready md ops listed).contains i=true)(hkw:sh md ops kk i=true)(hu:listed.getD kk false=false)(hQ:∀c a w,Q (.panic c) (a.put d v) w→Q (.panic c) a w)(hw:Region.wanted oi (yielded ops a.tmps)=true)(hU:∀l w,l.getD kk false=false→SS l w→U w)(hp:∀l w,SS (l.setIfInBounds i true) w↔SS l w)(hy:∀w,U w→(execOp a.eval oi).run P w=.ok (.value v) w)(hS:SS listed w)(h:fe P md ops Q SS fuel (listed.setIfInBounds i true) (a.put d v) w):fe P md ops Q SS (fuel+1) listed a w:=by
 subst hd;exact rS hi (Region.noSelect_spec hs) hQ (kF hkw) hU hp fuel listed a w (Region.free_spec hi hf) (by simpa using hr) (.inl ⟨hw,hy⟩) hu hS h
theorem aM(i:Nat){o:Oper}{a:Act}{w:World}(hr:Region.ready md ops listed=[i])(ho:ops[i]?=some o)(h:∀K':Act→World→Prop,Shut (∀a w,SS (listed.setIfInBounds i true) w→fe P md ops Q SS fuel (listed.setIfInBounds i true) a w→K' a w)→if Region.wanted o (yielded ops a.tmps)=true then Oper.wp P o a w K' Q else K' (a.put o.dst undef) w) :
  fe P md ops Q SS (fuel+1) listed a w:=by
 refine⟨fun h0=>(by rw[hr]at h0;cases h0),fun j hj=>?_⟩;rw[hr]at hj;obtain rfl:j=i:=by simpa using hj
 exact wpOp_step ho (fun K' hK=>h K' (fun a w hS hW=>hK a w ⟨hS,hW⟩))
theorem pw(i j:Nat){o o':Oper}{a:Act}{w:World}(hr:Region.ready md ops listed=[i,j])(ho:ops[i]?=some o)(ho':ops[j]?=some o')(h:∀K':Act→World→Prop,Shut (∀a w,SS (listed.setIfInBounds i true) w→fe P md ops Q SS fuel (listed.setIfInBounds i true) a w→K' a w)→if Region.wanted o (yielded ops a.tmps)=true then Oper.wp P o a w K' Q else K' (a.put o.dst undef) w)(h':∀K':Act→World→Prop,Shut (∀a w,SS (listed.setIfInBounds j true) w→fe P md ops Q SS fuel (listed.setIfInBounds j true) a w→K' a w)→if Region.wanted o' (yielded ops a.tmps)=true then Oper.wp P o' a w K' Q else K' (a.put o'.dst undef) w) :
  fe P md ops Q SS (fuel+1) listed a w:=by
 refine⟨fun h0=>(by rw[hr]at h0;cases h0),fun m hm=>?_⟩;rw[hr]at hm;rcases yG.1 hm with rfl|hm
 ·exact wpOp_step ho (fun K' hK=>h K' (fun a w hS hW=>hK a w ⟨hS,hW⟩))
 ·obtain rfl:m=j:=by simpa using hm
  exact wpOp_step ho' (fun K' hK=>h' K' (fun a w hS hW=>hK a w ⟨hS,hW⟩))
theorem gG{listed:Array Bool}{a:Act}{w:World}(hr:Region.ready md ops listed=[])(h:Q .normal a w) :
  ∀fuel,fe P md ops Q SS fuel listed a w
 |0=>⟨hr,h⟩
 |_+1=>⟨fun _=>h,by rw[hr];simp⟩
theorem mM(SS:Array Bool→World→Prop)(hm:P.follows .mixedOrders=true)(h:fe P .any ops Q SS ops.size (Array.replicate ops.size false) a w.drew):(Code.region id ops true).wp P Q a w :=
 wp_region_any hm (ov _ _ _ _ h)
def nH(k:Nat)(S:World→Prop)(m:Nat)(T:World→Prop)(l:Array Bool)(w:World):Prop:=(l.getD k false=false→S w)∧(l.getD m false=false→T w)
theorem nH.put{k m:Nat}{S T:World→Prop}(hk:i≠k)(hm:i≠m)(l:Array Bool)(w:World):nH k S m T (l.setIfInBounds i true) w↔nH k S m T l w:=by unfold nH;rw[gC hk,gC hm]
end
section
variable {P:Program} {ops:Array Oper} {Q:Exit→Act→World→Prop} {md:Region.Mode} {S:World→Prop} {k:Nat}
theorem bD(i j:Nat){o o':Oper}{a:Act}{w:World}(hr:Region.ready md ops listed=[i,j])(ho:ops[i]?=some o)(ho':ops[j]?=some o')(h:∀K':Act→World→Prop,Shut (∀a w,(i≠k→S w)→cV P md ops Q S k fuel (listed.setIfInBounds i true) a w→K' a w)→if Region.wanted o (yielded ops a.tmps)=true then Oper.wp P o a w K' Q else K' (a.put o.dst undef) w)(h':∀K':Act→World→Prop,Shut (∀a w,(j≠k→S w)→cV P md ops Q S k fuel (listed.setIfInBounds j true) a w→K' a w)→if Region.wanted o' (yielded ops a.tmps)=true then Oper.wp P o' a w K' Q else K' (a.put o'.dst undef) w) :
  cV P md ops Q S k (fuel+1) listed a w:=by
 refine⟨fun h0=>(by rw[hr]at h0;cases h0),fun m hm=>?_⟩;rw[hr]at hm;rcases yG.1 hm with rfl|hm
 ·exact wpOp_step ho (fun K' hK=>h K' (fun a w hS hW=>hK a w ⟨hS,hW⟩))
 ·obtain rfl:m=j:=by simpa using hm
  exact wpOp_step ho' (fun K' hK=>h' K' (fun a w hS hW=>hK a w ⟨hS,hW⟩))
end
open _root_.Go.Proofs.Tryz
theorem mt(p:Nat)(w:World)(h:bt w p) :
  Calls prog 75 #[.pointer (some ⟨p,0,none⟩)] w (fX p w fun v _=>∃x,v=B C x∧x∈([-1,0,1,2,31,32,99,100,200,201,9999,10000,1000000,1000001,1152921504606846976,1152921504606846977,-1152921504606846976,9223372036854775807,-9223372036854775808]:List Int)):=by
 have H:=zZ h;clear h;go_enter func75,ntmps75
 go_wp2_with (go_at_call 32;refine (cn p _ [-1,0,1,2,31,32,99,100,200,201,9999,10000,1000000,1000001,1152921504606846976,1152921504606846977,-1152921504606846976,9223372036854775807,-9223372036854775808] _ (H.out.ext ((zE _).alloc _)) (ao.lit _ _ H.out.lt (by decide) (by decide)) (by simp)).mono ?_;rintro e w1 ⟨v1,rfl,⟨x,rfl,hx⟩,HT,HX⟩;have HM:=zZ hx;clear hx);go_ret
 exact⟨_,rfl,⟨x,rfl,HM.out⟩,HT,XT.trans ((XT.refl _ _).alloc _) HX⟩
structure iy (p:Nat) (w wx:World) (G:Nat) (c0 cs:Array Value) (T:TypeId):Prop where
 tp:bt wx p
 xt:XT p w wx
 r0:Bk wx w.heap.size c0 T
 bx:Bk wx G cs T
 hG:w.heap.size<G
section
variable {p G:Nat} {w wx w':World} {c0 cs:Array Value} {T:TypeId}
theorem iy.step(h:iy p w wx G c0 cs T)(hp:p<w.heap.size)(hx:XT p wx w')(ht:bt w' p):iy p w w' G c0 cs T :=
 ⟨ht,h.xt.trans hx,h.r0.xt hx (by omega),h.bx.xt hx (by have:=h.hG;omega),h.hG⟩
theorem iy.set(h:iy p w wx G c0 cs T)(hp:p<w.heap.size)(i:Nat)(u:Value):iy p w (wx.setCell ⟨G,i,none⟩ u) G c0 (cs.setIfInBounds i u) T :=
 ⟨h.tp.setNew (by have:=h.hG;simp only;omega) u,h.xt.setNew (by have:=h.hG;simp only;omega) u,h.r0.far (by have:=h.hG;simp only;omega) u,h.bx.set i u,h.hG⟩
end
def Ga(s:eD):Prop:=s.wf∧(s.t≤30∨s.s≤3)∧s.s≠50∧s.s≠60
def Ih(s:eD):Value:=.agg #[B C s.t,B C s.s,B C s.q]
theorem pz{x:Int}(h:x∈([-1,0,1,2,31,32,99,100,200,201,9999,10000,1000000,1000001,1152921504606846976,1152921504606846977,-1152921504606846976,9223372036854775807,-9223372036854775808]:List Int)):aC x∧x≠50∧x≠60:=(by decide:∀x∈([-1,0,1,2,31,32,99,100,200,201,9999,10000,1000000,1000001,1152921504606846976,1152921504606846977,-1152921504606846976,9223372036854775807,-9223372036854775808]:List Int),aC x∧x≠50∧x≠60) x h
theorem C7(p:Nat)(w:World)(h:bt w p) :
  Calls prog 54 #[.pointer (some ⟨p,0,none⟩),B C 3] w (fX p w fun v _=>∃s,v=Ih s∧Ga s):=by
 have hlt:=h.lt;have H:Bx (bt (w.alloc (.cells #[B C 0,B C 0,B C 0] 109)) p):=⟨h.ext ((zE _).alloc _)⟩
 clear h;go_enter func54,ntmps54
 go_wp2_with fail;refine (am p 0 24 _ H.out (by omega) (by omega) (by omega) (by omega)).mono ?_;rintro e w1 ⟨v1,rfl,⟨t,rfl,ht1,ht2⟩,HT1,HX1⟩;go_wp2_with fail;refine (am p 0 3 _ HT1 (by omega) (by omega) (by omega) (by omega)).mono ?_;rintro e w2 ⟨v2,rfl,⟨s,rfl,hs1,hs2⟩,HT2,HX2⟩;go_wp2_with fail;refine (am p 0 9 _ HT2 (by omega) (by omega) (by omega) (by omega)).mono ?_;rintro e w3 ⟨v3,rfl,⟨q,rfl,hq1,hq2⟩,HT3,HX3⟩;obtain⟨w4,hw4⟩:=nm (w3.alloc (.cells #[B C t,B C s,B C q] 109));have HX:XT p (w.alloc (.cells #[B C 0,B C 0,B C 0] 109)) w3:=(HX1.trans HX2).trans HX3;have hsz:=HX.size;have HS:Bx (iy p w w4 w3.heap.size #[B C 0,B C 0,B C 0] #[B C t,B C s,B C q] 109) :=
  ⟨by rw[hw4];exact⟨HT3.ext ((zE _).alloc _),(((XT.refl _ _).alloc _).trans HX).alloc _,((Bk.new w _ _).xt HX (by omega)).alloc _,Bk.new w3 _ _,by simp at hsz;omega⟩⟩
 clear HT1 HX1 HT2 HX2 HT3 HX3 HX H;go_wp2_with fail;rw[←hw4];clear hw4;refine (dR p 3 _ HS.out.tp (by omega) (by omega)).mono ?_;rintro e w5 ⟨v5,rfl,⟨b,rfl⟩,HT5,HX5⟩;have HS5:=bx (HS.out.step hlt HX5 HT5);clear HS HT5 HX5;cases b with
 |false =>
  have g0:=HS5.out.bx.c 0 rfl;have g1:=HS5.out.bx.c 1 rfl;have g2:=HS5.out.bx.c 2 rfl;have z0:=HS5.out.r0.c 0 rfl;have z1:=HS5.out.r0.c 1 rfl;have z2:=HS5.out.r0.c 2 rfl;have f0:=HS5.out.r0.froz 0;have f1:=HS5.out.r0.froz 1;have f2:=HS5.out.r0.froz 2;go_wp2_with fail;refine bodyPost_ret (v:=.agg #[B C t,B C s,B C q]) (by simp[results,results54,go_sem,g0,g1,g2,z0,z1,z2]) rfl ⟨_,rfl,⟨⟨t,s,q⟩,rfl,⟨⟨by constructor<;>(simp only;omega),by constructor<;>(simp only;omega),by constructor<;>(simp only;omega)⟩,by simp only;omega,by simp only;omega,by simp only;omega⟩⟩,((HS5.out.tp.setNew hlt _).setNew hlt _).setNew hlt _,((HS5.out.xt.setNew (zX _) _).setNew (zX _) _).setNew (zX _) _⟩
 |true =>
  go_wp2_with fail;refine (au p 3 _ HS5.out.tp (by omega)).mono ?_;rintro e w6 ⟨v6,rfl,⟨r,rfl,hr1,hr2⟩,HT6,HX6⟩;have HS6:=bx (HS5.out.step hlt HX6 HT6);clear HS5 HT6 HX6;by_cases c0:r=0
  ·subst c0;have k0:((0:Int)==0)=true:=rfl;go_wp2_with fail;refine (mt p _ HS6.out.tp).mono ?_;rintro e w7 ⟨v7,rfl,⟨x,rfl,hx⟩,HT7,HX7⟩;have HW:=pz hx;have HS7:=bx (HS6.out.step hlt HX7 HT7);have HS8:Bx (iy p w (w7.setCell ⟨w3.heap.size,0,none⟩ (B C x)) w3.heap.size #[B C 0,B C 0,B C 0] #[B C x,B C s,B C q] 109):=⟨HS7.out.set hlt 0 _⟩
   have hxb:aC x:=HW.1;have hx5:x≠50∧x≠60:=HW.2;obtain⟨hxb1,hxb2⟩:=hxb;obtain⟨hx50,hx60⟩:=hx5;clear HS6 HT7 HX7 hx HW;have q0:=HS7.out.bx.c 0 rfl;have qf:=HS7.out.bx.froz 0;have g0:=HS8.out.bx.c 0 rfl;have g1:=HS8.out.bx.c 1 rfl;have g2:=HS8.out.bx.c 2 rfl;have z0:=HS8.out.r0.c 0 rfl;have z1:=HS8.out.r0.c 1 rfl;have z2:=HS8.out.r0.c 2 rfl;have f0:=HS8.out.r0.froz 0;have f1:=HS8.out.r0.froz 1;have f2:=HS8.out.r0.froz 2;go_wp2_with fail;refine bodyPost_ret (v:=.agg #[B C x,B C s,B C q]) (by simp[results,results54,go_sem,g0,g1,g2,z0,z1,z2]) rfl ⟨_,rfl,⟨⟨x,s,q⟩,rfl,⟨⟨by constructor<;>(simp only;omega),by constructor<;>(simp only;omega),by constructor<;>(simp only;omega)⟩,by simp only;omega,by simp only;omega,by simp only;omega⟩⟩,((HS8.out.tp.setNew hlt _).setNew hlt _).setNew hlt _,((HS8.out.xt.setNew (zX _) _).setNew (zX _) _).setNew (zX _) _⟩
  ·have k0:(r==0)=false:=beq_eq_false_iff_ne.2 c0;by_cases c1:r=1
   ·have k1:(r==1)=true:=by rw[c1];rfl
    go_wp2_with fail;refine (mt p _ HS6.out.tp).mono ?_;rintro e w7 ⟨v7,rfl,⟨x,rfl,hx⟩,HT7,HX7⟩;have HW:=pz hx;have HS7:=bx (HS6.out.step hlt HX7 HT7);have HS8:Bx (iy p w (w7.setCell ⟨w3.heap.size,1,none⟩ (B C x)) w3.heap.size #[B C 0,B C 0,B C 0] #[B C t,B C x,B C q] 109):=⟨HS7.out.set hlt 1 _⟩
    have hxb:aC x:=HW.1;have hx5:x≠50∧x≠60:=HW.2;obtain⟨hxb1,hxb2⟩:=hxb;obtain⟨hx50,hx60⟩:=hx5;clear HS6 HT7 HX7 hx HW;have q0:=HS7.out.bx.c 1 rfl;have qf:=HS7.out.bx.froz 1;have g0:=HS8.out.bx.c 0 rfl;have g1:=HS8.out.bx.c 1 rfl;have g2:=HS8.out.bx.c 2 rfl;have z0:=HS8.out.r0.c 0 rfl;have z1:=HS8.out.r0.c 1 rfl;have z2:=HS8.out.r0.c 2 rfl;have f0:=HS8.out.r0.froz 0;have f1:=HS8.out.r0.froz 1;have f2:=HS8.out.r0.froz 2;go_wp2_with fail;refine bodyPost_ret (v:=.agg #[B C t,B C x,B C q]) (by simp[results,results54,go_sem,g0,g1,g2,z0,z1,z2]) rfl ⟨_,rfl,⟨⟨t,x,q⟩,rfl,⟨⟨by constructor<;>(simp only;omega),by constructor<;>(simp only;omega),by constructor<;>(simp only;omega)⟩,by simp only;omega,by simp only;omega,by simp only;omega⟩⟩,((HS8.out.tp.setNew hlt _).setNew hlt _).setNew hlt _,((HS8.out.xt.setNew (zX _) _).setNew (zX _) _).setNew (zX _) _⟩
   ·have k1:(r==1)=false:=beq_eq_false_iff_ne.2 c1;go_wp2_with fail;refine (mt p _ HS6.out.tp).mono ?_;rintro e w7 ⟨v7,rfl,⟨x,rfl,hx⟩,HT7,HX7⟩;have HW:=pz hx;have HS7:=bx (HS6.out.step hlt HX7 HT7);have HS8:Bx (iy p w (w7.setCell ⟨w3.heap.size,2,none⟩ (B C x)) w3.heap.size #[B C 0,B C 0,B C 0] #[B C t,B C s,B C x] 109):=⟨HS7.out.set hlt 2 _⟩
    have hxb:aC x:=HW.1;have hx5:x≠50∧x≠60:=HW.2;obtain⟨hxb1,hxb2⟩:=hxb;obtain⟨hx50,hx60⟩:=hx5;clear HS6 HT7 HX7 hx HW;have q0:=HS7.out.bx.c 2 rfl;have qf:=HS7.out.bx.froz 2;have g0:=HS8.out.bx.c 0 rfl;have g1:=HS8.out.bx.c 1 rfl;have g2:=HS8.out.bx.c 2 rfl;have z0:=HS8.out.r0.c 0 rfl;have z1:=HS8.out.r0.c 1 rfl;have z2:=HS8.out.r0.c 2 rfl;have f0:=HS8.out.r0.froz 0;have f1:=HS8.out.r0.froz 1;have f2:=HS8.out.r0.froz 2;go_wp2_with fail;refine bodyPost_ret (v:=.agg #[B C t,B C s,B C x]) (by simp[results,results54,go_sem,g0,g1,g2,z0,z1,z2]) rfl ⟨_,rfl,⟨⟨t,s,x⟩,rfl,⟨⟨by constructor<;>(simp only;omega),by constructor<;>(simp only;omega),by constructor<;>(simp only;omega)⟩,by simp only;omega,by simp only;omega,by simp only;omega⟩⟩,((HS8.out.tp.setNew hlt _).setNew hlt _).setNew hlt _,((HS8.out.xt.setNew (zX _) _).setNew (zX _) _).setNew (zX _) _⟩
end Go.Proofs.YtjgfgdcaocbfhaaGreat

namespace Go.Proofs.YtjgfgdcaocbfhaaGreat
open Go.Value renaming int→B
open Go.IntKind renaming i64→C
theorem Tryz.infoS:(Tryz.prog.info? 22).map (fun i=>(i.zero,i.size,i.bytes))=some (some (.slice none 0 0),1,24):=by kernel_rfl
end Go.Proofs.YtjgfgdcaocbfhaaGreat

namespace Go.Proofs.YtjgfgdcaocbfhaaGreat
open Go.Value renaming int→B
open Go.IntKind renaming i64→C
open Go.RowKit
variable {b p:Nat}
def db(base:Nat)(w:World)(v:Value)(ls:List (List Int)):Prop :=
 ∃us:List Value,us.length=ls.length∧w.ownsRow base 22 1 v ls.length us∧∀(j:Nat) (u:Value) (l:List Int),us[j]?=some u→ls[j]?=some l→w.ownsRow base 3 1 u l.length (l.map (Value.int .i64))
section
variable {base:Nat} {w w':World} {v:Value} {ls:List (List Int)}
theorem db.nil(base:Nat)(w:World):db base w (.slice none 0 0) []:=⟨[],rfl,yW _ _ _ _,fun j u l hu=>by simp at hu⟩
theorem db.of_nest(h:eE p b 22 3 w v ls)(hb:base≤b):db base w v ls:=by
 obtain⟨us,H,hus,hown,hbH,hH,hold,hlast⟩:=h;refine⟨us,hus,bo hown hb,fun j u l hu hl=>?_⟩;have hj:=(zY.1 hl).1;by_cases e:j+1<ls.length
 ·exact bo (hold j u l hu hl e).1 hb
 ·obtain rfl:j=ls.length-1:=by omega
  exact bo (hlast u l hu hl) (by omega)
theorem db.isP(h:db base w v ls)(hp:p<base)(hb:∀l∈ls,∀x∈l,aC x)(hl:∀l∈ls,l.length≤9223372036854775807):kL p w v ls:=by obtain⟨us,a,b,f⟩:=h;refine bg.of_own (e:=22) (us.map fun u=>[u]) (by simp) (by decide) (by simpa using a) (by rw[Gt];exact b) hp ?_;intro k cs x hcs hx;simp only[zL,yI]at hcs;obtain⟨u,hu,rfl⟩:=hcs;exact⟨u,rfl,ao.of_own (f k u x hu hx) hp (hb x (zU hx)) (hl x (zU hx))⟩
theorem db.keep(h:db base w v ls)(e:∀{e':Nat} {u:Value} {n:Nat} {xs:List Value},(e'=22∨e'=3)→w.ownsRow base e' 1 u n xs→w'.ownsRow base e' 1 u n xs):db base w' v ls:=by obtain⟨us,a,b,f⟩:=h;exact⟨us,a,e (.inl rfl) b,fun j u l hu hl=>e (.inr rfl) (f j u l hu hl)⟩
theorem db.xt(h:db base w v ls)(hx:XT p w w')(hp:p<base):db base w' v ls:=h.keep fun _ k=>dJ k hx hp
theorem db.ext(h:db base w v ls)(hx:ab w w'):db base w' v ls:=h.keep fun _ k=>ac k hx
theorem db.far(h:db base w v ls){o t:Nat}{cs:Array Value}(hb:w.heap[b]?=some (.cells cs t (0,0)))(h1:t≠22)(h2:t≠3)(u:Value):db base (w.setCell ⟨b,o,none⟩ u) v ls :=
 h.keep fun he k=>bm k (by refine ex k hb ?_;rcases he with rfl|rfl;exact h1;exact h2) u
theorem db.apart(h:db base w v ls){t s n:Nat}{z:Value}{xs:List Value}(hz:w.ownsRow b t s z n xs)(h1:t≠22)(h2:t≠3)(hg:w.grownBy w' z.ownBlock):db base w' v ls :=
 h.keep fun he k=>aE k hg fun q hq=>bE k hz (by rcases he with rfl|rfl;exact Ne.symm h1;exact Ne.symm h2) q hq
theorem db.form(h:db base w v ls):∃A c,v=.slice A ls.length c:=by
 obtain⟨us,a,b,f⟩:=h;rcases b.2 with ⟨e,h0⟩|⟨g,cap,cur,e,_⟩
 ·exact⟨none,0,by rw[e,h0]⟩
 ·exact⟨_,_,e⟩
theorem db.re(h:db base w v ls)(hb:b≤base):db b w v ls:=by obtain⟨us,a,b',f⟩:=h;exact⟨us,a,bo b' hb,fun j u l hu hl=>bo (f j u l hu hl) hb⟩
end
end Go.Proofs.YtjgfgdcaocbfhaaGreat

