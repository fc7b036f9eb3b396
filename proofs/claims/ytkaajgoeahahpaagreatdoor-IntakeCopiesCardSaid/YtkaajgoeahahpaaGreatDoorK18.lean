import Derived.Test.YtkaajgoeahahpaaGreatDoorK17
import Derived.Test.YtkaajgoeahahpaaGreatDoorK10
set_option linter.all false
set_option maxRecDepth 100000
set_option maxHeartbeats 0
namespace Go.Proofs.YtkaajgoeahahpaaGreatDoor
open Go.Value renaming int→B
open Go.IntKind renaming i64→C
open Go.RowKit
variable {b p:Nat}
section
variable {P:Program} {ops:Array Oper} {Q:Exit->Act->World->Prop} {md:Region.Mode} {S:World->Prop} {k:Nat}
theorem an(i j:Nat){o o':Oper}{fuel:Nat}{listed:Array Bool}{a:Act}{w:World}(hr:Region.ready md ops listed=[i,j])(ho:ops[i]?=some o)(ho':ops[j]?=some o')(h:∀K':Act->World->Prop,Shut (∀a w,(i≠k->S w)->cM P md ops Q S k fuel (listed.setIfInBounds i true) a w->K' a w)->if Region.wanted o (yielded ops a.tmps)=true then Oper.wp P o a w K' Q else K' (a.put o.dst undef) w)(h':∀K':Act->World->Prop,Shut (∀a w,(j≠k->S w)->cM P md ops Q S k fuel (listed.setIfInBounds j true) a w->K' a w)->if Region.wanted o' (yielded ops a.tmps)=true then Oper.wp P o' a w K' Q else K' (a.put o'.dst undef) w) :
  cM P md ops Q S k (fuel+1) listed a w:=by
 refine⟨fun h0=>(by rw[hr]at h0;cases h0),fun m hm=>?_⟩;rw[hr]at hm;rcases yM.1 hm with rfl|hm
 ·exact wpOp_step ho (fun K' hK=>h K' (fun a w hS hW=>hK a w ⟨hS,hW⟩))
 ·obtain rfl:m=j:=by simpa using hm
  exact wpOp_step ho' (fun K' hK=>h' K' (fun a w hS hW=>hK a w ⟨hS,hW⟩))
end
open _root_.Go.Proofs.Tryz
theorem oV(p:Nat)(w:World)(h:bz w p) :
  Calls prog 96 #[.pointer (some ⟨p,0,none⟩)] w (iN p w fun v _=>∃x,v=.int .i64 x/\x∈([-1,0,1,2,31,32,99,100,200,201,9999,10000,1000000,1000001,1152921504606846976,1152921504606846977,-1152921504606846976,9223372036854775807,-9223372036854775808]:List Int)):=by
 have H:=zZ h;clear h;go_enter func96,ntmps96
 go_wp2_with (go_at_call 49;refine (dt p _ [-1,0,1,2,31,32,99,100,200,201,9999,10000,1000000,1000001,1152921504606846976,1152921504606846977,-1152921504606846976,9223372036854775807,-9223372036854775808] _ (H.out.ext ((zE _).alloc _)) (ak.lit _ _ H.out.lt (by decide) (by decide)) (by simp)).mono ?_;rintro e w1 ⟨v1,rfl,⟨x,rfl,hx⟩,HT,HX⟩;have HM:=zZ hx;clear hx);go_ret
 exact⟨_,rfl,⟨x,rfl,HM.out⟩,HT,XT.trans ((XT.refl _ _).alloc _) HX⟩
structure jz (p:Nat) (w wx:World) (G:Nat) (c0 cs:Array Value) (T:TypeId):Prop where
 tp:bz wx p
 xt:XT p w wx
 r0:Bk wx w.heap.size c0 T
 bx:Bk wx G cs T
 hG:w.heap.size<G
section
variable {p G:Nat} {w wx w':World} {c0 cs:Array Value} {T:TypeId}
theorem jz.step(h:jz p w wx G c0 cs T)(hp:p<w.heap.size)(hx:XT p wx w')(ht:bz w' p):jz p w w' G c0 cs T :=
 ⟨ht,h.xt.trans hx,h.r0.xt hx (by omega),h.bx.xt hx (by have:=h.hG;omega),h.hG⟩
theorem jz.ext(h:jz p w wx G c0 cs T)(hp:p<w.heap.size)(hx:ab wx w'):jz p w w' G c0 cs T:=h.step hp hx.xt (h.tp.ext hx)
theorem jz.set(h:jz p w wx G c0 cs T)(hp:p<w.heap.size)(i:Nat)(u:Value):jz p w (wx.setCell ⟨G,i,none⟩ u) G c0 (cs.setIfInBounds i u) T :=
 ⟨h.tp.setNew (by have:=h.hG;simp only;omega) u,h.xt.setNew (by have:=h.hG;simp only;omega) u,h.r0.far (by have:=h.hG;simp only;omega) u,h.bx.set i u,h.hG⟩
end
def JF(s:bN):Prop:=s.wf/\(s.t<=30\/s.s<=3)/\s.s≠50/\s.s≠60
def Li(s:bN):Value:=.agg #[B C s.t,B C s.s,B C s.q]
theorem rl{x:Int}(h:x∈([-1,0,1,2,31,32,99,100,200,201,9999,10000,1000000,1000001,1152921504606846976,1152921504606846977,-1152921504606846976,9223372036854775807,-9223372036854775808]:List Int)):aU x/\x≠50/\x≠60:=(by decide:∀x∈([-1,0,1,2,31,32,99,100,200,201,9999,10000,1000000,1000001,1152921504606846976,1152921504606846977,-1152921504606846976,9223372036854775807,-9223372036854775808]:List Int),aU x/\x≠50/\x≠60) x h
theorem Eh(p:Nat)(w:World)(h:bz w p) :
  Calls prog 56 #[.pointer (some ⟨p,0,none⟩),B C 3] w (iN p w fun v _=>∃s,v=Li s/\JF s):=by
 have hlt:=h.lt;have H:Bx (bz (w.alloc (.cells #[B C 0,B C 0,B C 0] 41)) p):=⟨h.ext ((zE _).alloc _)⟩
 clear h;go_enter func56,ntmps56
 go_wp2_with fail;refine (az p 0 24 _ H.out (by omega) (by omega) (by omega) (by omega)).mono ?_;rintro e w1 ⟨v1,rfl,⟨t,rfl,ht1,ht2⟩,HT1,HX1⟩;go_wp2_with fail;refine (az p 0 3 _ HT1 (by omega) (by omega) (by omega) (by omega)).mono ?_;rintro e w2 ⟨v2,rfl,⟨s,rfl,hs1,hs2⟩,HT2,HX2⟩;go_wp2_with fail;refine (az p 0 9 _ HT2 (by omega) (by omega) (by omega) (by omega)).mono ?_;rintro e w3 ⟨v3,rfl,⟨q,rfl,hq1,hq2⟩,HT3,HX3⟩;obtain⟨w4,hw4⟩:=nm (w3.alloc (.cells #[B C t,B C s,B C q] 41));have HX:XT p (w.alloc (.cells #[B C 0,B C 0,B C 0] 41)) w3:=(HX1.trans HX2).trans HX3;have hsz:=HX.size;have HS:Bx (jz p w w4 w3.heap.size #[B C 0,B C 0,B C 0] #[B C t,B C s,B C q] 41) :=
  ⟨by rw[hw4];exact⟨HT3.ext ((zE _).alloc _),(((XT.refl _ _).alloc _).trans HX).alloc _,((Bk.new w _ _).xt HX (by omega)).alloc _,Bk.new w3 _ _,by simp at hsz;omega⟩⟩
 clear HT1 HX1 HT2 HX2 HT3 HX3 HX H;go_wp2_with fail;rw[<-hw4];clear hw4;refine (fe p 3 _ HS.out.tp (by omega) (by omega)).mono ?_;rintro e w5 ⟨v5,rfl,⟨b,rfl⟩,HT5,HX5⟩;have HS5:=bx (HS.out.step hlt HX5 HT5);clear HS HT5 HX5;cases b with
 |false =>
  have g0:=HS5.out.bx.c 0 rfl;have g1:=HS5.out.bx.c 1 rfl;have g2:=HS5.out.bx.c 2 rfl;have z0:=HS5.out.r0.c 0 rfl;have z1:=HS5.out.r0.c 1 rfl;have z2:=HS5.out.r0.c 2 rfl;have f0:=HS5.out.r0.froz 0;have f1:=HS5.out.r0.froz 1;have f2:=HS5.out.r0.froz 2;go_wp2_with fail;refine bodyPost_ret (v:=.agg #[B C t,B C s,B C q]) (by simp[results,results56,go_sem,g0,g1,g2,z0,z1,z2]) rfl ⟨_,rfl,⟨⟨t,s,q⟩,rfl,⟨⟨by constructor<;>(simp only;omega),by constructor<;>(simp only;omega),by constructor<;>(simp only;omega)⟩,by simp only;omega,by simp only;omega,by simp only;omega⟩⟩,((HS5.out.tp.setNew hlt _).setNew hlt _).setNew hlt _,((HS5.out.xt.setNew (zX _) _).setNew (zX _) _).setNew (zX _) _⟩
 |true =>
  go_wp2_with fail;refine (am p 3 _ HS5.out.tp (by omega)).mono ?_;rintro e w6 ⟨v6,rfl,⟨r,rfl,hr1,hr2⟩,HT6,HX6⟩;have HS6:=bx (HS5.out.step hlt HX6 HT6);clear HS5 HT6 HX6;by_cases c0:r=0
  ·subst c0;have k0:((0:Int)==0)=true:=rfl;go_wp2_with fail;refine (oV p _ HS6.out.tp).mono ?_;rintro e w7 ⟨v7,rfl,⟨x,rfl,hx⟩,HT7,HX7⟩;have HW:=rl hx;have HS7:=bx (HS6.out.step hlt HX7 HT7);have HS8:Bx (jz p w (w7.setCell ⟨w3.heap.size,0,none⟩ (B C x)) w3.heap.size #[B C 0,B C 0,B C 0] #[B C x,B C s,B C q] 41):=⟨HS7.out.set hlt 0 _⟩
   have hxb:aU x:=HW.1;have hx5:x≠50/\x≠60:=HW.2;obtain⟨hxb1,hxb2⟩:=hxb;obtain⟨hx50,hx60⟩:=hx5;clear HS6 HT7 HX7 hx HW;have q0:=HS7.out.bx.c 0 rfl;have qf:=HS7.out.bx.froz 0;have g0:=HS8.out.bx.c 0 rfl;have g1:=HS8.out.bx.c 1 rfl;have g2:=HS8.out.bx.c 2 rfl;have z0:=HS8.out.r0.c 0 rfl;have z1:=HS8.out.r0.c 1 rfl;have z2:=HS8.out.r0.c 2 rfl;have f0:=HS8.out.r0.froz 0;have f1:=HS8.out.r0.froz 1;have f2:=HS8.out.r0.froz 2;go_wp2_with fail;refine bodyPost_ret (v:=.agg #[B C x,B C s,B C q]) (by simp[results,results56,go_sem,g0,g1,g2,z0,z1,z2]) rfl ⟨_,rfl,⟨⟨x,s,q⟩,rfl,⟨⟨by constructor<;>(simp only;omega),by constructor<;>(simp only;omega),by constructor<;>(simp only;omega)⟩,by simp only;omega,by simp only;omega,by simp only;omega⟩⟩,((HS8.out.tp.setNew hlt _).setNew hlt _).setNew hlt _,((HS8.out.xt.setNew (zX _) _).setNew (zX _) _).setNew (zX _) _⟩
  ·have k0:(r==0)=false:=beq_eq_false_iff_ne.2 c0;by_cases c1:r=1
   ·have k1:(r==1)=true:=by rw[c1];rfl
    go_wp2_with fail;refine (oV p _ HS6.out.tp).mono ?_;rintro e w7 ⟨v7,rfl,⟨x,rfl,hx⟩,HT7,HX7⟩;have HW:=rl hx;have HS7:=bx (HS6.out.step hlt HX7 HT7);have HS8:Bx (jz p w (w7.setCell ⟨w3.heap.size,1,none⟩ (B C x)) w3.heap.size #[B C 0,B C 0,B C 0] #[B C t,B C x,B C q] 41):=⟨HS7.out.set hlt 1 _⟩
    have hxb:aU x:=HW.1;have hx5:x≠50/\x≠60:=HW.2;obtain⟨hxb1,hxb2⟩:=hxb;obtain⟨hx50,hx60⟩:=hx5;clear HS6 HT7 HX7 hx HW;have q0:=HS7.out.bx.c 1 rfl;have qf:=HS7.out.bx.froz 1;have g0:=HS8.out.bx.c 0 rfl;have g1:=HS8.out.bx.c 1 rfl;have g2:=HS8.out.bx.c 2 rfl;have z0:=HS8.out.r0.c 0 rfl;have z1:=HS8.out.r0.c 1 rfl;have z2:=HS8.out.r0.c 2 rfl;have f0:=HS8.out.r0.froz 0;have f1:=HS8.out.r0.froz 1;have f2:=HS8.out.r0.froz 2;go_wp2_with fail;refine bodyPost_ret (v:=.agg #[B C t,B C x,B C q]) (by simp[results,results56,go_sem,g0,g1,g2,z0,z1,z2]) rfl ⟨_,rfl,⟨⟨t,x,q⟩,rfl,⟨⟨by constructor<;>(simp only;omega),by constructor<;>(simp only;omega),by constructor<;>(simp only;omega)⟩,by simp only;omega,by simp only;omega,by simp only;omega⟩⟩,((HS8.out.tp.setNew hlt _).setNew hlt _).setNew hlt _,((HS8.out.xt.setNew (zX _) _).setNew (zX _) _).setNew (zX _) _⟩
   ·have k1:(r==1)=false:=beq_eq_false_iff_ne.2 c1;go_wp2_with fail;refine (oV p _ HS6.out.tp).mono ?_;rintro e w7 ⟨v7,rfl,⟨x,rfl,hx⟩,HT7,HX7⟩;have HW:=rl hx;have HS7:=bx (HS6.out.step hlt HX7 HT7);have HS8:Bx (jz p w (w7.setCell ⟨w3.heap.size,2,none⟩ (B C x)) w3.heap.size #[B C 0,B C 0,B C 0] #[B C t,B C s,B C x] 41):=⟨HS7.out.set hlt 2 _⟩
    have hxb:aU x:=HW.1;have hx5:x≠50/\x≠60:=HW.2;obtain⟨hxb1,hxb2⟩:=hxb;obtain⟨hx50,hx60⟩:=hx5;clear HS6 HT7 HX7 hx HW;have q0:=HS7.out.bx.c 2 rfl;have qf:=HS7.out.bx.froz 2;have g0:=HS8.out.bx.c 0 rfl;have g1:=HS8.out.bx.c 1 rfl;have g2:=HS8.out.bx.c 2 rfl;have z0:=HS8.out.r0.c 0 rfl;have z1:=HS8.out.r0.c 1 rfl;have z2:=HS8.out.r0.c 2 rfl;have f0:=HS8.out.r0.froz 0;have f1:=HS8.out.r0.froz 1;have f2:=HS8.out.r0.froz 2;go_wp2_with fail;refine bodyPost_ret (v:=.agg #[B C t,B C s,B C x]) (by simp[results,results56,go_sem,g0,g1,g2,z0,z1,z2]) rfl ⟨_,rfl,⟨⟨t,s,x⟩,rfl,⟨⟨by constructor<;>(simp only;omega),by constructor<;>(simp only;omega),by constructor<;>(simp only;omega)⟩,by simp only;omega,by simp only;omega,by simp only;omega⟩⟩,((HS8.out.tp.setNew hlt _).setNew hlt _).setNew hlt _,((HS8.out.xt.setNew (zX _) _).setNew (zX _) _).setNew (zX _) _⟩
def dn(base:Nat)(w:World)(v:Value)(ls:List (List Int)):Prop :=
 ∃us:List Value,us.length=ls.length/\w.ownsRow base 22 1 v ls.length us/\∀(j:Nat) (u:Value) (l:List Int),us[j]?=some u->ls[j]?=some l->w.ownsRow base 3 1 u l.length (l.map (Value.int .i64))
section
variable {base:Nat} {w w':World} {v:Value} {ls:List (List Int)}
theorem dn.nil(base:Nat)(w:World):dn base w (.slice none 0 0) []:=⟨[],rfl,yZ _ _ _ _,fun j u l hu=>by simp at hu⟩
theorem dn.of_nest(h:eU p b 22 3 w v ls)(hb:base<=b):dn base w v ls:=by
 obtain⟨us,H,hus,hown,hbH,hH,hold,hlast⟩:=h;refine⟨us,hus,cd hown hb,fun j u l hu hl=>?_⟩;have hj:=(zY.1 hl).1;by_cases e:j+1<ls.length
 ·exact cd (hold j u l hu hl e).1 hb
 ·obtain rfl:j=ls.length-1:=by omega
  exact cd (hlast u l hu hl) (by omega)
theorem dn.of_rowz{H:Nat}(h:jf b 22 3 H w v ls)(hb:base<=b):dn base w v ls:=by obtain⟨us,a,b',c,d,f⟩:=h;exact⟨us,a,cd b' hb,fun j u l hu hl=>cd (f j u l hu hl).1 hb⟩
theorem dn.isP(h:dn base w v ls)(hp:p<base)(hb:∀l∈ls,∀x∈l,aU x)(hl:∀l∈ls,l.length<=9223372036854775807):oc p w v ls:=by obtain⟨us,a,b,f⟩:=h;refine bj.of_own (e:=22) (us.map fun u=>[u]) (by simp) (by decide) (by simpa using a) (by rw[AY];exact b) hp ?_;intro k cs x hcs hx;simp only[zP,yO]at hcs;obtain⟨u,hu,rfl⟩:=hcs;exact⟨u,rfl,ak.of_own (f k u x hu hx) hp (hb x (zW hx)) (hl x (zW hx))⟩
theorem dn.keep(h:dn base w v ls)(e:∀{e':Nat} {u:Value} {n:Nat} {xs:List Value},(e'=22\/e'=3)->w.ownsRow base e' 1 u n xs->w'.ownsRow base e' 1 u n xs):dn base w' v ls:=by obtain⟨us,a,b,f⟩:=h;exact⟨us,a,e (.inl rfl) b,fun j u l hu hl=>e (.inr rfl) (f j u l hu hl)⟩
theorem dn.xt(h:dn base w v ls)(hx:XT p w w')(hp:p<base):dn base w' v ls:=h.keep fun _ k=>dD k hx hp
theorem dn.ext(h:dn base w v ls)(hx:ab w w'):dn base w' v ls:=h.keep fun _ k=>ao k hx
theorem dn.far(h:dn base w v ls){o t:Nat}{cs:Array Value}(hb:w.heap[b]?=some (.cells cs t (0,0)))(h1:t≠22)(h2:t≠3)(u:Value):dn base (w.setCell ⟨b,o,none⟩ u) v ls :=
 h.keep fun he k=>aN k (by refine aG k hb ?_;rcases he with rfl|rfl;exact h1;exact h2) u
theorem dn.apart(h:dn base w v ls){t s n:Nat}{z:Value}{xs:List Value}(hz:w.ownsRow b t s z n xs)(h1:t≠22)(h2:t≠3)(hg:w.grownBy w' z.ownBlock):dn base w' v ls :=
 h.keep fun he k=>aJ k hg fun q hq=>cA k hz (by rcases he with rfl|rfl;exact Ne.symm h1;exact Ne.symm h2) q hq
theorem dn.form(h:dn base w v ls):∃A c,v=.slice A ls.length c:=by
 obtain⟨us,a,b,f⟩:=h;rcases b.2 with ⟨e,h0⟩|⟨g,cap,cur,e,_⟩
 ·exact⟨none,0,by rw[e,h0]⟩
 ·exact⟨_,_,e⟩
theorem dn.re(h:dn base w v ls)(hb:b<=base):dn b w v ls:=by obtain⟨us,a,b',f⟩:=h;exact⟨us,a,cd b' hb,fun j u l hu hl=>cd (f j u l hu hl) hb⟩
end
end Go.Proofs.YtkaajgoeahahpaaGreatDoor

