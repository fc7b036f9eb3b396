import Derived.Test.YtjgfgdcaocbfhaaGreatH2
set_option linter.all false
set_option maxRecDepth 100000
set_option maxHeartbeats 0
namespace Go.Proofs.YtjgfgdcaocbfhaaGreat
open Go.RowKit
variable {fuel:Nat} {listed:Array Bool}
section
variable {P:Program} {ops:Array Oper} {Q:Exit→Act→World→Prop} {md:Region.Mode} {SS:Array Bool→World→Prop}
def fe(P:Program)(md:Region.Mode)(ops:Array Oper)(Q:Exit→Act→World→Prop)(SS:Array Bool→World→Prop):Nat→Array Bool→Act→World→Prop
 |0,listed,a,w=>Region.ready md ops listed=[]∧Q .normal a w
 |fuel+1,listed,a,w =>
  (Region.ready md ops listed=[]→Q .normal a w) ∧
  ∀i∈Region.ready md ops listed,wpOp P ops Q i (fun a' w'=>SS (listed.setIfInBounds i true) w'∧fe P md ops Q SS fuel (listed.setIfInBounds i true) a' w') a w
theorem ov:∀(fuel:Nat) (listed:Array Bool) (a:Act) (w:World),fe P md ops Q SS fuel listed a w→wpAny P md ops Q fuel listed a w
 |0,_,_,_,h=>h
 |fuel+1,_,_,_,h=>⟨h.1,fun i hi=>wpOp_mono (fun a' w' h'=>ov fuel _ a' w' h'.2) (h.2 i hi)⟩
theorem rS{i kk:Nat}{oi:Oper}{v:Value}{U:World→Prop}(hi:ops[i]?=some oi)(hsel:∀(j:Nat) (o:Oper) cs b,ops[j]?=some o→o.op≠.select cs b)(hQ:∀c a w,Q (.panic c) (a.put oi.dst v) w→Q (.panic c) a w)(hkw:∀ok,ops[kk]?=some ok→∃e∈ok.after,Region.binds md e=true∧e.on=i)(hU:∀l w,l.getD kk false=false→SS l w→U w)(hp:∀l w,SS (l.setIfInBounds i true) w↔SS l w) :
  ∀(fuel:Nat) (listed:Array Bool) (a:Act) (w:World),
   (∀j oj,ops[j]?=some oj→j≠i→listed.getD j true=false→(∀e∈oj.after,Region.binds md e=true→e.on≠i)→oi.apart ops oj=true) →
   i∈Region.ready md ops listed→YieldsIf P ops U oi v a→listed.getD kk false=false→SS listed w →
   fe P md ops Q SS fuel (listed.setIfInBounds i true) (a.put oi.dst v) w→fe P md ops Q SS (fuel+1) listed a w:=by
 intro fuel;induction fuel with
 |zero =>
  intro listed a w _ hr hy hu hS H;refine⟨fun h=>(by rw[h]at hr;cases hr),fun j hj=>?_⟩;by_cases hji:j=i
  ·subst hji;exact hy.wpOp hi (hU _ _ hu hS) ⟨(hp _ _).2 hS,H⟩
  ·have:=ready_mono hj hji;rw[H.1]at this;cases this
 |succ fuel ih =>
  intro listed a w hfree hr hy hu hS H;refine⟨fun h=>(by rw[h]at hr;cases hr),fun j hj=>?_⟩;by_cases hji:j=i
  ·subst hji;exact hy.wpOp hi (hU _ _ hu hS) ⟨(hp _ _).2 hS,H⟩
  ·have hh:=H.2 j (ready_mono hj hji);obtain⟨hjun,oj,hoj,hall⟩:=mem_ready.1 hj;have hnot:∀e∈oj.after,Region.binds md e=true→e.on≠i:=fun e he hb heq=>by
    have h1:=hall e he hb;have h0:=(mem_ready.1 hr).1;rw[heq]at h1;rcases zV i listed.size with h'|h'
    ·simp[h']at h0 h1;rw[h0]at h1;cases h1
    ·simp[yM h']at h1
   have hjk:j≠kk:=fun e=>by subst e;obtain⟨x,hx,hb,ho⟩:=hkw oj hoj;exact hnot x hx hb ho
   have h2:=wpOp_putIf hoj (hfree j oj hoj hji hjun hnot) (fun cs b=>hsel i oi cs b hi) (fun cs b=>hsel j oj cs b hoj) hQ hy hh;have hfree':∀m om,ops[m]?=some om→m≠i→(listed.setIfInBounds j true).getD m true=false →
     (∀e∈om.after,Region.binds md e=true→e.on≠i)→oi.apart ops om=true:=fun m om hm hmi hun hno=>by
    refine hfree m om hm hmi ?_ hno;by_cases hjm:j=m
    ·subst hjm;exact hjun
    ·rw[getD_set_ne true hjm]at hun;exact hun
   have hcomm:∀l:Array Bool,(l.setIfInBounds i true).setIfInBounds j true=(l.setIfInBounds j true).setIfInBounds i true:=fun l=>Array.setIfInBounds_comm _ _ (Ne.symm hji);refine wpOp_mono (fun a' w' h3=>?_) h2;obtain⟨h4,h5,h6⟩:_∧SS ((listed.setIfInBounds i true).setIfInBounds j true) w'∧fe P md ops Q SS fuel ((listed.setIfInBounds i true).setIfInBounds j true) (a'.put oi.dst v) w':=⟨h3.1,h3.2.1,h3.2.2⟩
   rw[hcomm]at h5 h6;have h7:=(hp _ _).1 h5;exact⟨h7,ih (listed.setIfInBounds j true) a' w' hfree' (ready_mono hr (Ne.symm hji)) h4 (by rw[gC hjk];exact hu) h7 h6⟩
theorem aG(U:World→Prop)(kk i:Nat)(d:Option Tmp){oi:Oper}{v:Value}{a:Act}{w:World}(hi:ops[i]?=some oi)(hd:oi.dst=d)(hs:Region.noSelect ops=true)(hf:Region.free md ops listed i=true)(hr:(Region.ready md ops listed).contains i=true)(hkw:sh md ops kk i=true)(hu:listed.getD kk false=false)(hQ:∀c a w,Q (.panic c) (a.put d v) w→Q (.panic c) a w)(hw:Region.wanted oi (yielded ops a.tmps)=true)(hU:∀l w,l.getD kk false=false→SS l w→U w)(hp:∀l w,SS (l.setIfInBounds i true) w↔SS l w)(hy:∀w,U w→(execOp a.eval oi).run P w=.ok (.value v) w)(hS:SS listed w)(h:fe P md ops Q SS fuel (listed.setIfInBounds i true) (a.put d v) w):fe P md ops Q SS (fuel+1) listed a w:=by
 subst hd;exact rS hi (Region.noSelect_spec hs) hQ (kF hkw) hU hp fuel listed a w (Region.free_spec hi hf) (by simpa using hr) (.inl ⟨hw,hy⟩) hu hS h
theorem aM(i:Nat){o:Oper}{a:Act}{w:World}(hr:Region.ready md ops listed=[i])(ho:ops[i]?=some o)(h:∀K':Act→World→Prop,Shut (∀a w,SS (listed.setIfInBounds i true) w→fe P md ops Q SS fuel (listed.setIfInBounds i true) a w→K' a w)→if Region.wanted o (yielded ops a.tmps)=true then Oper.wp P o a w K' Q else K' (a.put o.dst undef) w) :
  fe P md ops Q SS (fuel+1) listed a w:=by
 refine⟨fun h0=>(by rw[hr]at h0;cases h0),fun j hj=>?_⟩;rw[hr]at hj;obtain rfl:j=i:=by simpa using hj
 exact wpOp_step ho (fun K' hK=>h K' (fun a w hS hW=>hK a w ⟨hS,hW⟩))
theorem pw(i j:Nat){o o':Oper}{a:Act}{w:World}(hr:Region.ready md ops listed=[i,j])(ho:ops[i]?=some o)(ho':ops[j]?=some o')(h:∀K':Act→World→Prop,Shut (∀a w,SS (listed.setIfInBounds i true) w→fe P md ops Q SS fuel (listed.setIfInBounds i true) a w→K' a w)→if Region.wanted o (yielded ops a.tmps)=true then Oper.wp P o a w K' Q else K' (a.put o.dst undef) w)(h':∀K':Act→World→Prop,Shut (∀a w,SS (listed.setIfInBounds j true) w→fe P md ops Q SS fuel (listed.setIfInBounds j true) a w→K' a w)→if Region.wanted o' (yielded ops a.tmps)=true then Oper.wp P o' a w K' Q else K' (a.put o'.dst undef) w) :
  fe P md ops Q SS (fuel+1) listed a w:=by
 refine⟨fun h0=>(by rw[hr]at h0;cases h0),fun m hm=>?_⟩;rw[hr]at hm;rcases yG.1 hm with rfl|hm
 ·exact wpOp_step ho (fun K' hK=>h K' (fun a w hS hW=>hK a w ⟨hS,hW⟩))
 ·obtain rfl:m=j:=by simpa using hm
  exact wpOp_step ho' (fun K' hK=>h' K' (fun a w hS hW=>hK a w ⟨hS,hW⟩))
theorem gG{listed:Array Bool}{a:Act}{w:World}(hr:Region.ready md ops listed=[])(h:Q .normal a w) :
  ∀fuel,fe P md ops Q SS fuel listed a w
 |0=>⟨hr,h⟩
 |_+1=>⟨fun _=>h,by rw[hr];simp⟩
theorem mM(SS:Array Bool→World→Prop){id:Nat}{a:Act}{w:World}(hm:P.follows .mixedOrders=true)(h:fe P .any ops Q SS ops.size (Array.replicate ops.size false) a w.drew):(Code.region id ops true).wp P Q a w :=
 wp_region_any hm (ov _ _ _ _ h)
def nH(k:Nat)(S:World→Prop)(m:Nat)(T:World→Prop)(l:Array Bool)(w:World):Prop:=(l.getD k false=false→S w)∧(l.getD m false=false→T w)
theorem nH.put{k m i:Nat}{S T:World→Prop}(hk:i≠k)(hm:i≠m)(l:Array Bool)(w:World):nH k S m T (l.setIfInBounds i true) w↔nH k S m T l w:=by unfold nH;rw[gC hk,gC hm]
end
section
variable {P:Program} {ops:Array Oper} {Q:Exit→Act→World→Prop} {md:Region.Mode} {S:World→Prop} {k:Nat}
theorem bD(i j:Nat){o o':Oper}{a:Act}{w:World}(hr:Region.ready md ops listed=[i,j])(ho:ops[i]?=some o)(ho':ops[j]?=some o')(h:∀K':Act→World→Prop,Shut (∀a w,(i≠k→S w)→cV P md ops Q S k fuel (listed.setIfInBounds i true) a w→K' a w)→if Region.wanted o (yielded ops a.tmps)=true then Oper.wp P o a w K' Q else K' (a.put o.dst undef) w)(h':∀K':Act→World→Prop,Shut (∀a w,(j≠k→S w)→cV P md ops Q S k fuel (listed.setIfInBounds j true) a w→K' a w)→if Region.wanted o' (yielded ops a.tmps)=true then Oper.wp P o' a w K' Q else K' (a.put o'.dst undef) w) :
  cV P md ops Q S k (fuel+1) listed a w:=by
 refine⟨fun h0=>(by rw[hr]at h0;cases h0),fun m hm=>?_⟩;rw[hr]at hm;rcases yG.1 hm with rfl|hm
 ·exact wpOp_step ho (fun K' hK=>h K' (fun a w hS hW=>hK a w ⟨hS,hW⟩))
 ·obtain rfl:m=j:=by simpa using hm
  exact wpOp_step ho' (fun K' hK=>h' K' (fun a w hS hW=>hK a w ⟨hS,hW⟩))
end
open _root_.Go.Proofs.Tryz
theorem mt(p:Nat)(w:World)(h:bt w p) :
  Calls prog 75 #[.pointer (some ⟨p,0,none⟩)] w (fX p w fun v _=>∃x,v=.int .i64 x∧x∈([-1,0,1,2,31,32,99,100,200,201,9999,10000,1000000,1000001,1152921504606846976,1152921504606846977,-1152921504606846976,9223372036854775807,-9223372036854775808]:List Int)):=by
 have H:=zZ h;clear h;go_enter func75,ntmps75
 go_wp2_with (go_at_call 32;refine (cn p _ [-1,0,1,2,31,32,99,100,200,201,9999,10000,1000000,1000001,1152921504606846976,1152921504606846977,-1152921504606846976,9223372036854775807,-9223372036854775808] _ (H.out.ext ((zE _).alloc _)) (ao.lit _ _ H.out.lt (by decide) (by decide)) (by simp)).mono ?_;rintro e w1 ⟨v1,rfl,⟨x,rfl,hx⟩,HT,HX⟩;have HM:=zZ hx;clear hx);go_ret
 exact⟨_,rfl,⟨x,rfl,HM.out⟩,HT,XT.trans ((XT.refl _ _).alloc _) HX⟩
structure iy (p:Nat) (w wx:World) (G:Nat) (c0 cs:Array Value) (T:TypeId):Prop where
 tp:bt wx p
 xt:XT p w wx
 r0:Bk wx w.heap.size c0 T
 bx:Bk wx G cs T
 hG:w.heap.size<G
section
variable {p G:Nat} {w wx w':World} {c0 cs:Array Value} {T:TypeId}
theorem iy.step(h:iy p w wx G c0 cs T)(hp:p<w.heap.size)(hx:XT p wx w')(ht:bt w' p):iy p w w' G c0 cs T :=
 ⟨ht,h.xt.trans hx,h.r0.xt hx (by omega),h.bx.xt hx (by have:=h.hG;omega),h.hG⟩
theorem iy.set(h:iy p w wx G c0 cs T)(hp:p<w.heap.size)(i:Nat)(u:Value):iy p w (wx.setCell ⟨G,i,none⟩ u) G c0 (cs.setIfInBounds i u) T :=
 ⟨h.tp.setNew (by have:=h.hG;simp only;omega) u,h.xt.setNew (by have:=h.hG;simp only;omega) u,h.r0.far (by have:=h.hG;simp only;omega) u,h.bx.set i u,h.hG⟩
end
def Ga(s:eD):Prop:=s.wf∧(s.t≤30∨s.s≤3)∧s.s≠50∧s.s≠60
def Ih(s:eD):Value:=.agg #[.int .i64 s.t,.int .i64 s.s,.int .i64 s.q]
theorem pz{x:Int}(h:x∈([-1,0,1,2,31,32,99,100,200,201,9999,10000,1000000,1000001,1152921504606846976,1152921504606846977,-1152921504606846976,9223372036854775807,-9223372036854775808]:List Int)):aC x∧x≠50∧x≠60:=(by decide:∀x∈([-1,0,1,2,31,32,99,100,200,201,9999,10000,1000000,1000001,1152921504606846976,1152921504606846977,-1152921504606846976,9223372036854775807,-9223372036854775808]:List Int),aC x∧x≠50∧x≠60) x h
theorem C7(p:Nat)(w:World)(h:bt w p) :
  Calls prog 54 #[.pointer (some ⟨p,0,none⟩),.int .i64 3] w (fX p w fun v _=>∃s,v=Ih s∧Ga s):=by
 have hlt:=h.lt;have H:Bx (bt (w.alloc (.cells #[.int .i64 0,.int .i64 0,.int .i64 0] 109)) p):=⟨h.ext ((zE _).alloc _)⟩
 clear h;go_enter func54,ntmps54
 go_wp2_with fail;refine (am p 0 24 _ H.out (by omega) (by omega) (by omega) (by omega)).mono ?_;rintro e w1 ⟨v1,rfl,⟨t,rfl,ht1,ht2⟩,HT1,HX1⟩;go_wp2_with fail;refine (am p 0 3 _ HT1 (by omega) (by omega) (by omega) (by omega)).mono ?_;rintro e w2 ⟨v2,rfl,⟨s,rfl,hs1,hs2⟩,HT2,HX2⟩;go_wp2_with fail;refine (am p 0 9 _ HT2 (by omega) (by omega) (by omega) (by omega)).mono ?_;rintro e w3 ⟨v3,rfl,⟨q,rfl,hq1,hq2⟩,HT3,HX3⟩;obtain⟨w4,hw4⟩:=nm (w3.alloc (.cells #[.int .i64 t,.int .i64 s,.int .i64 q] 109));have HX:XT p (w.alloc (.cells #[.int .i64 0,.int .i64 0,.int .i64 0] 109)) w3:=(HX1.trans HX2).trans HX3;have hsz:=HX.size;have HS:Bx (iy p w w4 w3.heap.size #[.int .i64 0,.int .i64 0,.int .i64 0] #[.int .i64 t,.int .i64 s,.int .i64 q] 109) :=
  ⟨by rw[hw4];exact⟨HT3.ext ((zE _).alloc _),(((XT.refl _ _).alloc _).trans HX).alloc _,((Bk.new w _ _).xt HX (by omega)).alloc _,Bk.new w3 _ _,by simp at hsz;omega⟩⟩
 clear HT1 HX1 HT2 HX2 HT3 HX3 HX H;go_wp2_with fail;rw[←hw4];clear hw4;refine (dR p 3 _ HS.out.tp (by omega) (by omega)).mono ?_;rintro e w5 ⟨v5,rfl,⟨b,rfl⟩,HT5,HX5⟩;have HS5:=bx (HS.out.step hlt HX5 HT5);clear HS HT5 HX5;cases b with
 |false =>
  have g0:=HS5.out.bx.c 0 rfl;have g1:=HS5.out.bx.c 1 rfl;have g2:=HS5.out.bx.c 2 rfl;have z0:=HS5.out.r0.c 0 rfl;have z1:=HS5.out.r0.c 1 rfl;have z2:=HS5.out.r0.c 2 rfl;have f0:=HS5.out.r0.froz 0;have f1:=HS5.out.r0.froz 1;have f2:=HS5.out.r0.froz 2;go_wp2_with fail;refine bodyPost_ret (v:=.agg #[.int .i64 t,.int .i64 s,.int .i64 q]) (by simp[results,results54,go_sem,g0,g1,g2,z0,z1,z2]) rfl ⟨_,rfl,⟨⟨t,s,q⟩,rfl,⟨⟨by constructor<;>(simp only;omega),by constructor<;>(simp only;omega),by constructor<;>(simp only;omega)⟩,by simp only;omega,by simp only;omega,by simp only;omega⟩⟩,((HS5.out.tp.setNew hlt _).setNew hlt _).setNew hlt _,((HS5.out.xt.setNew (zX _) _).setNew (zX _) _).setNew (zX _) _⟩
 |true =>
  go_wp2_with fail;refine (au p 3 _ HS5.out.tp (by omega)).mono ?_;rintro e w6 ⟨v6,rfl,⟨r,rfl,hr1,hr2⟩,HT6,HX6⟩;have HS6:=bx (HS5.out.step hlt HX6 HT6);clear HS5 HT6 HX6;by_cases c0:r=0
  ·subst c0;have k0:((0:Int)==0)=true:=rfl;go_wp2_with fail;refine (mt p _ HS6.out.tp).mono ?_;rintro e w7 ⟨v7,rfl,⟨x,rfl,hx⟩,HT7,HX7⟩;have HW:=pz hx;have HS7:=bx (HS6.out.step hlt HX7 HT7);have HS8:Bx (iy p w (w7.setCell ⟨w3.heap.size,0,none⟩ (.int .i64 x)) w3.heap.size #[.int .i64 0,.int .i64 0,.int .i64 0] #[.int .i64 x,.int .i64 s,.int .i64 q] 109):=⟨HS7.out.set hlt 0 _⟩
   have hxb:aC x:=HW.1;have hx5:x≠50∧x≠60:=HW.2;obtain⟨hxb1,hxb2⟩:=hxb;obtain⟨hx50,hx60⟩:=hx5;clear HS6 HT7 HX7 hx HW;have q0:=HS7.out.bx.c 0 rfl;have qf:=HS7.out.bx.froz 0;have g0:=HS8.out.bx.c 0 rfl;have g1:=HS8.out.bx.c 1 rfl;have g2:=HS8.out.bx.c 2 rfl;have z0:=HS8.out.r0.c 0 rfl;have z1:=HS8.out.r0.c 1 rfl;have z2:=HS8.out.r0.c 2 rfl;have f0:=HS8.out.r0.froz 0;have f1:=HS8.out.r0.froz 1;have f2:=HS8.out.r0.froz 2;go_wp2_with fail;refine bodyPost_ret (v:=.agg #[.int .i64 x,.int .i64 s,.int .i64 q]) (by simp[results,results54,go_sem,g0,g1,g2,z0,z1,z2]) rfl ⟨_,rfl,⟨⟨x,s,q⟩,rfl,⟨⟨by constructor<;>(simp only;omega),by constructor<;>(simp only;omega),by constructor<;>(simp only;omega)⟩,by simp only;omega,by simp only;omega,by simp only;omega⟩⟩,((HS8.out.tp.setNew hlt _).setNew hlt _).setNew hlt _,((HS8.out.xt.setNew (zX _) _).setNew (zX _) _).setNew (zX _) _⟩
  ·have k0:(r==0)=false:=beq_eq_false_iff_ne.2 c0;by_cases c1:r=1
   ·have k1:(r==1)=true:=by rw[c1];rfl
    go_wp2_with fail;refine (mt p _ HS6.out.tp).mono ?_;rintro e w7 ⟨v7,rfl,⟨x,rfl,hx⟩,HT7,HX7⟩;have HW:=pz hx;have HS7:=bx (HS6.out.step hlt HX7 HT7);have HS8:Bx (iy p w (w7.setCell ⟨w3.heap.size,1,none⟩ (.int .i64 x)) w3.heap.size #[.int .i64 0,.int .i64 0,.int .i64 0] #[.int .i64 t,.int .i64 x,.int .i64 q] 109):=⟨HS7.out.set hlt 1 _⟩
    have hxb:aC x:=HW.1;have hx5:x≠50∧x≠60:=HW.2;obtain⟨hxb1,hxb2⟩:=hxb;obtain⟨hx50,hx60⟩:=hx5;clear HS6 HT7 HX7 hx HW;have q0:=HS7.out.bx.c 1 rfl;have qf:=HS7.out.bx.froz 1;have g0:=HS8.out.bx.c 0 rfl;have g1:=HS8.out.bx.c 1 rfl;have g2:=HS8.out.bx.c 2 rfl;have z0:=HS8.out.r0.c 0 rfl;have z1:=HS8.out.r0.c 1 rfl;have z2:=HS8.out.r0.c 2 rfl;have f0:=HS8.out.r0.froz 0;have f1:=HS8.out.r0.froz 1;have f2:=HS8.out.r0.froz 2;go_wp2_with fail;refine bodyPost_ret (v:=.agg #[.int .i64 t,.int .i64 x,.int .i64 q]) (by simp[results,results54,go_sem,g0,g1,g2,z0,z1,z2]) rfl ⟨_,rfl,⟨⟨t,x,q⟩,rfl,⟨⟨by constructor<;>(simp only;omega),by constructor<;>(simp only;omega),by constructor<;>(simp only;omega)⟩,by simp only;omega,by simp only;omega,by simp only;omega⟩⟩,((HS8.out.tp.setNew hlt _).setNew hlt _).setNew hlt _,((HS8.out.xt.setNew (zX _) _).setNew (zX _) _).setNew (zX _) _⟩
   ·have k1:(r==1)=false:=beq_eq_false_iff_ne.2 c1;go_wp2_with fail;refine (mt p _ HS6.out.tp).mono ?_;rintro e w7 ⟨v7,rfl,⟨x,rfl,hx⟩,HT7,HX7⟩;have HW:=pz hx;have HS7:=bx (HS6.out.step hlt HX7 HT7);have HS8:Bx (iy p w (w7.setCell ⟨w3.heap.size,2,none⟩ (.int .i64 x)) w3.heap.size #[.int .i64 0,.int .i64 0,.int .i64 0] #[.int .i64 t,.int .i64 s,.int .i64 x] 109):=⟨HS7.out.set hlt 2 _⟩
    have hxb:aC x:=HW.1;have hx5:x≠50∧x≠60:=HW.2;obtain⟨hxb1,hxb2⟩:=hxb;obtain⟨hx50,hx60⟩:=hx5;clear HS6 HT7 HX7 hx HW;have q0:=HS7.out.bx.c 2 rfl;have qf:=HS7.out.bx.froz 2;have g0:=HS8.out.bx.c 0 rfl;have g1:=HS8.out.bx.c 1 rfl;have g2:=HS8.out.bx.c 2 rfl;have z0:=HS8.out.r0.c 0 rfl;have z1:=HS8.out.r0.c 1 rfl;have z2:=HS8.out.r0.c 2 rfl;have f0:=HS8.out.r0.froz 0;have f1:=HS8.out.r0.froz 1;have f2:=HS8.out.r0.froz 2;go_wp2_with fail;refine bodyPost_ret (v:=.agg #[.int .i64 t,.int .i64 s,.int .i64 x]) (by simp[results,results54,go_sem,g0,g1,g2,z0,z1,z2]) rfl ⟨_,rfl,⟨⟨t,s,x⟩,rfl,⟨⟨by constructor<;>(simp only;omega),by constructor<;>(simp only;omega),by constructor<;>(simp only;omega)⟩,by simp only;omega,by simp only;omega,by simp only;omega⟩⟩,((HS8.out.tp.setNew hlt _).setNew hlt _).setNew hlt _,((HS8.out.xt.setNew (zX _) _).setNew (zX _) _).setNew (zX _) _⟩
end Go.Proofs.YtjgfgdcaocbfhaaGreat

namespace Go.Proofs.YtjgfgdcaocbfhaaGreat
theorem Tryz.infoS:(Tryz.prog.info? 22).map (fun i=>(i.zero,i.size,i.bytes))=some (some (.slice none 0 0),1,24):=by kernel_rfl
end Go.Proofs.YtjgfgdcaocbfhaaGreat

namespace Go.Proofs.YtjgfgdcaocbfhaaGreat
open Go.RowKit
variable {a b k p:Nat} {ns:List Int}
def db(base:Nat)(w:World)(v:Value)(ls:List (List Int)):Prop :=
 ∃us:List Value,us.length=ls.length∧w.ownsRow base 22 1 v ls.length us∧∀(j:Nat) (u:Value) (l:List Int),us[j]?=some u→ls[j]?=some l→w.ownsRow base 3 1 u l.length (l.map (Value.int .i64))
section
variable {base:Nat} {w w':World} {v:Value} {ls:List (List Int)}
theorem db.nil(base:Nat)(w:World):db base w (.slice none 0 0) []:=⟨[],rfl,yW _ _ _ _,fun j u l hu=>by simp at hu⟩
theorem db.of_nest(h:eE p b 22 3 w v ls)(hb:base≤b):db base w v ls:=by
 obtain⟨us,H,hus,hown,hbH,hH,hold,hlast⟩:=h;refine⟨us,hus,bo hown hb,fun j u l hu hl=>?_⟩;have hj:=(zY.1 hl).1;by_cases e:j+1<ls.length
 ·exact bo (hold j u l hu hl e).1 hb
 ·obtain rfl:j=ls.length-1:=by omega
  exact bo (hlast u l hu hl) (by omega)
theorem db.isP(h:db base w v ls)(hp:p<base)(hb:∀l∈ls,∀x∈l,aC x)(hl:∀l∈ls,l.length≤9223372036854775807):kL p w v ls:=by obtain⟨us,a,b,f⟩:=h;refine bg.of_own (e:=22) (us.map fun u=>[u]) (by simp) (by decide) (by simpa using a) (by rw[Gt];exact b) hp ?_;intro k cs x hcs hx;simp only[zL,yI]at hcs;obtain⟨u,hu,rfl⟩:=hcs;exact⟨u,rfl,ao.of_own (f k u x hu hx) hp (hb x (zU hx)) (hl x (zU hx))⟩
theorem db.keep(h:db base w v ls)(e:∀{e':Nat} {u:Value} {n:Nat} {xs:List Value},(e'=22∨e'=3)→w.ownsRow base e' 1 u n xs→w'.ownsRow base e' 1 u n xs):db base w' v ls:=by obtain⟨us,a,b,f⟩:=h;exact⟨us,a,e (.inl rfl) b,fun j u l hu hl=>e (.inr rfl) (f j u l hu hl)⟩
theorem db.xt(h:db base w v ls)(hx:XT p w w')(hp:p<base):db base w' v ls:=h.keep fun _ k=>dJ k hx hp
theorem db.ext(h:db base w v ls)(hx:ab w w'):db base w' v ls:=h.keep fun _ k=>ac k hx
theorem db.far(h:db base w v ls){o t:Nat}{cs:Array Value}(hb:w.heap[b]?=some (.cells cs t (0,0)))(h1:t≠22)(h2:t≠3)(u:Value):db base (w.setCell ⟨b,o,none⟩ u) v ls :=
 h.keep fun he k=>bm k (by refine ex k hb ?_;rcases he with rfl|rfl;exact h1;exact h2) u
theorem db.apart(h:db base w v ls){t s n:Nat}{z:Value}{xs:List Value}(hz:w.ownsRow b t s z n xs)(h1:t≠22)(h2:t≠3)(hg:w.grownBy w' z.ownBlock):db base w' v ls :=
 h.keep fun he k=>aE k hg fun q hq=>bE k hz (by rcases he with rfl|rfl;exact Ne.symm h1;exact Ne.symm h2) q hq
theorem db.form(h:db base w v ls):∃A c,v=.slice A ls.length c:=by
 obtain⟨us,a,b,f⟩:=h;rcases b.2 with ⟨e,h0⟩|⟨g,cap,cur,e,_⟩
 ·exact⟨none,0,by rw[e,h0]⟩
 ·exact⟨_,_,e⟩
theorem db.re(h:db base w v ls)(hb:b≤base):db b w v ls:=by obtain⟨us,a,b',f⟩:=h;exact⟨us,a,bo b' hb,fun j u l hu hl=>bo (f j u l hu hl) hb⟩
end
open _root_.Go.Proofs.Tryz
def DX(w:World)(code var:Int)(ps:List ai)(e:Ending)(w':World):Prop :=
 ∃(v:Value) (pgs:List (List Int)) (er:Int),e=.returned (.tuple #[.agg #[v],.int .i64 er])∧db w.heap.size w' v pgs∧ab w w' ∧
  (d9 code var ps=false→pgs=[]∧er=1)∧(d9 code var ps=true→(12<(af ps).length→pgs=[]∧er=3)∧((af ps).length≤12→pgs=af ps∧er=0))
theorem zw(code var:Int)(v:Value)(ps:List ai)(w:World)(hp:p<w.heap.size)(h:kr p w v ps) :
  Calls prog 49 #[.agg #[.int .i64 code,.int .i64 var,v]] w (DX w code var ps):=by
 obtain⟨A,n,c,rfl,hnc,hc,hnn,HL⟩:=h.open_;obtain⟨i0,hi0,hz0,hz1,hz2⟩:=info_parts Tryz.infoI;obtain⟨iS,hiS,hy0,hy1,hy2⟩:=info_parts Tryz.infoS;have H:=zZ h;clear h;cases hv:d9 code var ps with
 |false =>
  have HV:=zZ hv;clear hv;go_enter func49,ntmps49
  go_wp2_with fail;refine (dG _ _ _ ps _ ((H.out.ext (aI.stab p) ((zE _).alloc _)).ext (aI.stab p) ((zE _).alloc _))).mono ?_;rintro e w1 ⟨rfl,hx1⟩;rw[HV.out];have c0:w1.cell? ⟨w.heap.size+1,0,none⟩=some (.slice none 0 0):=hx1.cell (by simp);have f0:w1.frozen? ⟨w.heap.size+1,0,none⟩=false:=(Below.frozen hx1.below (by simp)).trans (by simp);have HE:=zZ (ab.trans (((zE w).alloc _).alloc _) hx1);clear hx1;go_wp2_with fail;refine bodyPost_ret (v:=.tuple #[.agg #[.slice none 0 0],.int .i64 1]) (by simp[results,results49,go_sem,c0]) rfl ⟨_,[],1,rfl,db.nil _ _,?_,fun _=>⟨rfl,rfl⟩,fun h=>absurd (HV.out.symm.trans h) (by simp)⟩;exact HE.out.setCell (by simp) _
 |true =>
  have HV:=zZ hv;have hvp:=iV hv;obtain⟨_,_,_,_,hl1,hl24,hall,_⟩:=hvp;have HALL:=zZ hall;have hn1:1≤n:=by have:=HL.out;omega
  have hn24:n≤24:=by have:=HL.out;omega
  clear hv hall hl1 hl24;go_enter func49,ntmps49
  go_wp2_with fail;refine (dG _ _ _ ps _ ((H.out.ext (aI.stab p) ((zE _).alloc _)).ext (aI.stab p) ((zE _).alloc _))).mono ?_;rintro e w1 ⟨rfl,hx1⟩;rw[HV.out];have HE1:=zZ (ab.trans (((zE w).alloc _).alloc _) hx1);have b2:w1.cell? ⟨w.heap.size,2,none⟩=some (.slice A n c):=hx1.cell (by simp);have HB2:=zZ b2;have HRC:=zZ (hx1.blk (heap_alloc_new (w.alloc _) _));have HI1:=zZ (H.out.ext (aI.stab p) HE1.out);have hs1':w.heap.size+2≤w1.heap.size:=by have:=hx1.size;simp at this;omega
  clear hx1 b2;go_wp2_with fail;go_loopw [4,5,6] (fun s4 s5 s6 wr=>∃(k j g cap:Nat) (d:List (List Int)) (cu:List Int) (s:Int),k≤n∧0≤s∧s≤30∧j≤k+1∧s4=.slice (some ⟨g,0,none⟩) (j+1) cap∧s5=.int .i64 (30-s)∧s6=.int .i64 k ∧
    Hid (gs (ps.map cm) k=(d,cu,s)∧d.length=j∧cu.length≤k∧eE p w1.heap.size 22 3 wr (.slice (some ⟨g,0,none⟩) (j+1) cap) (d++[cu])∧ab w1 wr)) (fun _ _ i _=>n-(intOf i).toNat)
  case atStart=>exact⟨0,1,w1.heap.size,2,[[]],[],0,by omega,by omega,by omega,by omega,rfl,rfl,rfl,rfl,rfl,by simp,eE.two p w1 _ _ _ (zX _),(zE _).alloc _⟩
  case round =>
   obtain⟨k,j,g,cap,d,cu,s,hk,hs1,hs2,hjk,rfl,rfl,rfl,HR⟩:=hrel;have b2:=HR.out.2.2.2.2.cell HB2.out;by_cases hlt:k<n
   ·obtain⟨b,off,cs0,q0,rfl,_⟩:=H.out.at_ hlt;obtain⟨q,c0,c1,c2,c3,c4,c5,hw,HX⟩:=(HI1.out.ext (aI.stab p) HR.out.2.2.2.2).part hlt;have hnb:=nD q;go_wp2_with fail;refine (rx q _).mono ?_;rintro e w2 ⟨rfl,hx2⟩;clear c0 c1 c2 c3 c4 c5 b2;have HN2:=zZ (HR.out.2.2.2.1.ext hx2);have HE2:=zZ (HR.out.2.2.2.2.trans hx2);generalize hxq:cm q=x at *
    have HXQ:=zZ hxq;clear hxq hx2;by_cases hf:s+x≤30
    ·obtain⟨Au,nu,ccu,HH,hcell,hnu,hbg,hbH,hHw,hou,hstep⟩:=HN2.out.step HR.out.2.1 (by decide);have HOU:=zZ hou;have HST:=zZ hstep;have hnuk:nu≤24:=by have:=HR.out.2.2.1;omega
     clear hou hstep;go_wp2_with (at_builtin;refine al _ rfl (.tmp 41) (.tmp 43) 22 rfl HH 3 i0 _ 8 underlying22 hi0 hz0 hz1 hz2 rfl _ _ _ rfl (HOU.out.alloc _) _ _ rfl (by simp;rfl) rfl (by omega) (by omega) (by simp;omega) ?_;intro v' w3 hown' hg';obtain⟨g',cap',rfl,_,_⟩:=aQ hown' (by omega);obtain⟨hc3,hf3,hn3⟩:=HST.out _ _ _ _ ((zE _).alloc _) hg' hown';have HN3:=zZ hn3;have HE3:=zZ (ab.setCell (ab.grown (HE2.out.alloc _) hg' (fun k hk=>by have:=ar HOU.out k hk;omega)) (p:=⟨g,j,none⟩) hbg (.slice (some ⟨g',0,none⟩) (nu+1) cap'));clear hn3 hown' hg');go_roundw
     case rel =>exact⟨k+1,j,g,cap,d,cu++[(k:Int)],s+x,by omega,by omega,by omega,by omega,rfl,by go_num,by go_num,yz HR.out.1 (by rw[←HXQ.out];exact kY HX.out) hf,HR.out.2.1,by have:=HR.out.2.2.1;simp;omega,HN3.out,HE3.out⟩
     case measure=>simp[intOf];omega
    ·have hf':30<s+x:=by omega
     clear hf;obtain⟨us,hus,hOS⟩:=HN2.out.own;have HOS:=zZ hOS;have hjd:(d++[cu]).length=j+1:=by have:=HR.out.2.1;simp;omega
     have HJD:=zZ hjd;clear hOS hjd;go_wp2_with (first
      |(at_builtin;refine al _ rfl (.tmp 30) (.tmp 31) 90 rfl w1.heap.size 22 iS _ 24 underlying90 hiS hy0 hy1 hy2 rfl _ (j+1) us rfl (by have:=HOS.out.alloc (.cells #[.slice none 0 0] 22);rw[HJD.out]at this;exact this) _ _ rfl (by simp;rfl) rfl (by omega) (by omega) (by have:=HE2.out.size;simp;omega) ?_;intro v' w3 hown' hg';obtain⟨g',cap',rfl,_,_⟩:=aQ hown' (by omega);have HN3:=zZ ((HN2.out.ext ((zE _).alloc (.cells #[.slice none 0 0] 22))).new (by decide) (HOS.out.alloc _) hg' (by rw[HJD.out];exact hown'));have HE3:=zZ (ab.grown (HE2.out.alloc _) hg' (fun k hk=>by have:=ar HOS.out k hk;omega));clear hown' hg';obtain⟨Au,nu,ccu,HH,hcell,hnu,hbg,hbH,hHw,hou,hstep⟩:=HN3.out.step HJD.out (by decide);have HOU:=zZ hou;have HST:=zZ hstep;have hnu0:nu≤1:=(by simp at hnu;omega);clear hou hstep hnu)
      |(at_builtin;refine al _ rfl (.tmp 41) (.tmp 43) 22 rfl HH 3 i0 _ 8 underlying22 hi0 hz0 hz1 hz2 rfl _ _ _ rfl (HOU.out.alloc _) _ _ rfl (by simp;rfl) rfl (by omega) (by omega) (by simp;omega) ?_;intro v'' w4 hown'' hg'';obtain⟨g4,cap4,rfl,_,_⟩:=aQ hown'' (by omega);obtain⟨hc4,hf4,hn4⟩:=HST.out _ _ _ _ ((zE _).alloc _) hg'' hown'';have HN4:=zZ hn4;have HE4:=zZ (ab.setCell (ab.grown (HE3.out.alloc _) hg'' (fun k hk=>by have:=ar HOU.out k hk;omega)) (p:=⟨g',j+1,none⟩) hbg (.slice (some ⟨g4,0,none⟩) (nu+1) cap4));clear hn4 hown'' hg''))
     go_roundw
     case rel =>exact⟨k+1,j+1,g',cap',d++[cu],[(k:Int)],x,by omega,by omega,by omega,by omega,rfl,by go_num,by go_num,xi HR.out.1 (by rw[←HXQ.out];exact kY HX.out) hf',HJD.out,by simp,by simpa using HN4.out,HE4.out⟩
     case measure=>simp[intOf];omega
   ·obtain rfl:k=n:=by omega
    have hbdp:=pb ps;have HPG:=zZ (vO HL.out HR.out.1);clear hbdp;go_wp2_with fail;go_loopw [4] (fun s4 wr=>∃(m g cap:Nat) (ls:List (List Int)),m≤30∧s4=.slice (some ⟨g,0,none⟩) (m+1) cap∧Hid (ls.length=m+1∧eE p w1.heap.size 22 3 wr (.slice (some ⟨g,0,none⟩) (m+1) cap) ls∧ab w1 wr∧CN ls=af ps)) (fun s _=>match s with|.slice _ m _=>(4-m%4)%4|_=>0)
    case atStart=>exact⟨j,g,cap,d++[cu],by omega,rfl,by have:=HR.out.2.1;simp;omega,HR.out.2.2.2.1,HR.out.2.2.2.2,by unfold af;rw[HPG.out]⟩
    case round =>
     obtain⟨m,g,cap,ls,hm,rfl,HQ⟩:=hrel;clear HR HPG;by_cases h4:(m+1)%4=0
     ·have e4:(((m:Int)+1)%4 != 0)=false:=by simp;omega
      have c0:wr.cell? ⟨w.heap.size+1,0,none⟩=some (.slice none 0 0):=by have:=HQ.out.2.2.1.blk HRC.out;simp at this;exact ak this rfl
      have f0:wr.frozen? ⟨w.heap.size+1,0,none⟩=false:=by have:=HQ.out.2.2.1.blk HRC.out;simp at this;exact ax this 0
      have HP:Hid (ls=af ps):=by have:=HQ.out.2.2.2;rw[EW (by rw[HQ.out.1];exact h4)]at this;exact this
      have HE:=zZ (HE1.out.trans HQ.out.2.2.1);have HISP:Hid (∀u,db w.heap.size (wr.setCell ⟨w.heap.size+1,0,none⟩ u) (.slice (some ⟨g,0,none⟩) (m+1) cap) ls):=fun u=>db.of_nest (HQ.out.2.1.keep (w':=wr.setCell ⟨w.heap.size+1,0,none⟩ u) (by simp[World.setCell]) (fun k hk _=>xE _ _ _ _ (by show k≠w.heap.size+1;omega))) (by omega);have hlen:(af ps).length=m+1:=by rw[←HP.out];exact HQ.out.1
      have HLEN:=zZ hlen;clear h4 hlen;by_cases h12:12<m+1
      ·go_wp2_with fail;refine bodyPost_ret (v:=.tuple #[.agg #[.slice none 0 0],.int .i64 3]) (by simp[results,results49,go_sem,c0]) rfl ⟨_,[],3,rfl,db.nil _ _,HE.out.setCell (by simp) _,fun h=>absurd (HV.out.symm.trans h) (by simp),fun _=>⟨fun _=>⟨rfl,rfl⟩,fun h=>absurd h (by have:=HLEN.out;omega)⟩⟩
      ·go_wp2_with fail;refine bodyPost_ret (v:=.tuple #[.agg #[.slice (some ⟨g,0,none⟩) (m+1) cap],.int .i64 0]) (by simp[results,results49,go_sem,c0]) rfl ⟨_,af ps,0,rfl,?_,HE.out.setCell (by simp) _,fun h=>absurd (HV.out.symm.trans h) (by simp),fun _=>⟨fun h=>absurd h (by have:=HLEN.out;omega),fun _=>⟨rfl,rfl⟩⟩⟩;rw[←HP.out];exact HISP.out _
     ·have e4:(((m:Int)+1)%4 != 0)=true:=by simp;omega
      have HP4:Hid (CN (ls++[[]])=af ps):=by rw[←HQ.out.2.2.2];exact E0 (by rw[HQ.out.1];exact h4)
      obtain⟨us,hus,hOS⟩:=HQ.out.2.1.own;have HOS:=zZ hOS;clear hOS;have H4:=zZ h4;have hm10:m+1≤29:=by have h1:=congrArg List.length HQ.out.2.2.2;have h2:=(lh ps).1;have h3:=HL.out;have h5:=HQ.out.1;unfold CN at h1;simp at h1;omega
      clear h4;go_wp2_with (at_builtin;refine al _ rfl (.tmp 53) (.tmp 54) 90 rfl w1.heap.size 22 iS _ 24 underlying90 hiS hy0 hy1 hy2 rfl _ (m+1) us rfl (by have:=HOS.out.alloc (.cells #[.slice none 0 0] 22);rw[HQ.out.1]at this;exact this) _ _ rfl (by simp;rfl) rfl (by omega) (by omega) (by have:=HQ.out.2.2.1.size;simp;omega) ?_;intro v' w3 hown' hg';obtain⟨g',cap',rfl,_,_⟩:=aQ hown' (by omega);have HN3:=zZ ((HQ.out.2.1.ext ((zE _).alloc (.cells #[.slice none 0 0] 22))).new (by decide) (HOS.out.alloc _) hg' (by rw[HQ.out.1];exact hown'));have HE3:=zZ (ab.grown (HQ.out.2.2.1.alloc _) hg' (fun k hk=>by have:=ar HOS.out k hk;omega));clear hown' hg');go_roundw
      case rel=>exact⟨m+1,g',cap',ls++[[]],by omega,rfl,by have:=HQ.out.1;simp;omega,HN3.out,HE3.out,HP4.out⟩
      case measure=>have:=H4.out;show (4-(m+1+1)%4)%4<(4-(m+1)%4)%4;omega
def iv(a k:Nat):List Int:=(List.range k).map fun i=>((a+i:Nat):Int)
theorem AR(a k:Nat):iv a (k+1)=iv a k++[((a+k:Nat):Int)]:=by unfold iv;rw[yC];simp
theorem vW(a k:Nat):(iv a k).length=k:=by simp[iv]
theorem Hv{i:Nat}{y:Int}(h:(iv a k)[i]?=some y):y=((a+i:Nat):Int):=by unfold iv at h;simp only[zL,yI]at h;obtain⟨j,hj,rfl⟩:=h;have:=zY.1 hj;obtain⟨h1,h2⟩:=this;simp at h2;omega
theorem GK(h:a+k≤ns.length):kV ns a (iv a k) k:=⟨h,fun _ _ _ hy=>Hv hy⟩
theorem AZ(h:a+k≤ns.length)(hl:lA ns a k≤30):kz ns a (iv a k):=by unfold kz;rw[vW];exact⟨GK h,hl⟩
def Bt(ns:List Int)(d:List (List Int))(a:Nat):Prop:=∀rest,cT ns 0 (d++rest)↔cT ns a rest
theorem BH(ns:List Int):Bt ns [[]] 0:=by intro rest;simp[cT,kz,kV,lA]
theorem y7{d:List (List Int)}{pg:List Int}(h:Bt ns d a)(hp:kz ns a pg):Bt ns (d++[pg]) (a+pg.length):=by intro rest;rw[xV,h];exact⟨fun x=>x.2,fun x=>⟨hp,x⟩⟩
theorem Hl(ns:List Int)(hn:∀x∈ns,0≤x∧x≤30):∀k,k≤ns.length→∃a,a≤k∧Bt ns (gs ns k).1 a∧(gs ns k).2.1=iv a (k-a)∧(gs ns k).2.2=lA ns a (k-a)∧(gs ns k).2.2≤30∧∃t,(gs ns k).1=[]::t:=by
 intro k;induction k with
 |zero=>intro _;exact⟨0,by omega,BH ns,rfl,by simp[gs,lA],by simp[gs],[],rfl⟩
 |succ k ih =>
  intro hk;obtain⟨a,ha,h1,h2,h3,h4,t,h5⟩:=ih (by omega);have hkl:k<ns.length:=by omega
  have hx:ns[k]?=some ns[k]:=zW hkl;have hb:=hn _ (xX hkl);obtain⟨d,c,s,e⟩:∃d c s,gs ns k=(d,c,s):=⟨_,_,_,rfl⟩
  rw[e]at h1 h2 h3 h4 h5;simp only at h1 h2 h3 h4 h5;by_cases hf:s+ns[k]≤30
  ·rw[yz e hx hf];have ek:k+1-a=(k-a)+1:=by omega
   have eak:a+(k-a)=k:=by omega
   refine⟨a,by omega,h1,?_,?_,hf,t,h5⟩
   ·simp only;rw[ek,AR,h2,eak]
   ·simp only;rw[ek,jL (x:=ns[k]) (by rw[eak];exact hx),h3]
  ·rw[xi e hx (by omega)];refine⟨k,by omega,?_,?_,?_,by simp only;omega,t++[c],by simp only;rw[h5];rfl⟩
   ·simp only;have hp:kz ns a c:=by rw[h2];exact AZ (by omega) (by rw[←h3];exact h4)
    have:=y7 h1 hp;rw[h2,vW]at this;rw[h2];have e2:a+(k-a)=k:=by omega
    rw[e2]at this;exact this
   ·simp only;have:k+1-k=0+1:=by omega
    rw[this,AR];simp[iv]
   ·simp only;have:k+1-k=0+1:=by omega
    rw[this,jL (x:=ns[k]) (by simp),mw];omega
theorem ut(ns:List Int)(r:Nat):cT ns ns.length (List.replicate r []):=by
 induction r with
 |zero=>simp[cT]
 |succ r ih=>rw[List.replicate_succ];exact⟨⟨⟨by simp,fun i y hi=>by simp at hi⟩,by simp[lA]⟩,by simpa using ih⟩
theorem Gd{code var:Int}{ps:List ai}(hv:d9 code var ps=true)(hl:(af ps).length≤12):CU code var ps (af ps):=by
 obtain⟨a,ha,h1,h2,h3,h4,t,h5⟩:=Hl (ps.map cm) (pO ps) (ps.map cm).length (zX _);refine⟨hv,hl,?_,?_,?_⟩
 ·unfold af CN;simp;omega
 ·intro l hl';unfold af CN gR at hl';rw[h5]at hl';simp at hl';exact hl'
 ·unfold af CN gR;rw[xV,h1];rw[h2];refine⟨AZ (by omega) (by rw[←h3];exact h4),?_⟩;rw[vW];have e2:a+((ps.map cm).length-a)=(ps.map cm).length:=by omega
  rw[e2];exact ut _ _
end Go.Proofs.YtjgfgdcaocbfhaaGreat

