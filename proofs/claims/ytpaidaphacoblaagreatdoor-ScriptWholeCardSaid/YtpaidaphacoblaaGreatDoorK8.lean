import Derived.Test.YtpaidaphacoblaaGreatDoorOrdersC
set_option linter.all false
set_option maxRecDepth 100000
set_option maxHeartbeats 0
namespace Go.Proofs.YtpaidaphacoblaaGreatDoor
open Go.Value renaming int→B,slice→D
open Go.IntKind renaming i64→C
open Go.RowKit
abbrev BL:=List (Nat×Array Value×TypeId)
structure dV (w wx:World) (L:BL):Prop where
 bk:∀(k:Nat) b cs t,L[k]?=some (b,cs,t)->w.heap.size<=b/\Bk wx b cs t
 df:∀(i j:Nat) x y,L[i]?=some x->L[j]?=some y->i≠j->x.1≠y.1
section
variable {p:Nat} {w wx w':World} {L:BL} {b:Nat} {cs:Array Value} {t:TypeId}
theorem dV.nil(w wx:World):dV w wx []:=⟨fun k b cs t h=>by simp at h,fun i j x y h=>by simp at h⟩
theorem dV.at_(h:dV w wx L)(k:Nat)(hk:L[k]?=some (b,cs,t)):Bk wx b cs t:=(h.bk k b cs t hk).2
theorem dV.ge(h:dV w wx L)(k:Nat)(hk:L[k]?=some (b,cs,t)):w.heap.size<=b:=(h.bk k b cs t hk).1
theorem dV.lt(h:dV w wx L)(k:Nat)(hk:L[k]?=some (b,cs,t)):b<wx.heap.size:=(h.bk k b cs t hk).2.lt
theorem dV.ext(h:dV w wx L)(hx:ab wx w'):dV w w' L:=⟨fun k b cs t hk=>⟨(h.bk k b cs t hk).1,(h.bk k b cs t hk).2.ext hx⟩,h.df⟩
theorem dV.xt(h:dV w wx L)(hx:XT p wx w')(hp:p<w.heap.size):dV w w' L:=⟨fun k b cs t hk=>⟨(h.bk k b cs t hk).1,(h.bk k b cs t hk).2.xt hx (by have:=(h.bk k b cs t hk).1;omega)⟩,h.df⟩
theorem dV.new(h:dV w wx L)(hs:w.heap.size<=wx.heap.size)(cs:Array Value)(t:TypeId):dV w (wx.alloc (.cells cs t)) (L++[(wx.heap.size,cs,t)]):=by
 have hlt:∀(k:Nat) x,L[k]?=some x->x.1<wx.heap.size:=fun k x hk=>(h.bk k x.1 x.2.1 x.2.2 hk).2.lt;refine⟨fun k b cs' t' hk=>?_,fun i j x y hi hj hij=>?_⟩
 ·rcases zU k L.length with hl|hl
  ·rw[yY hl]at hk;exact⟨(h.bk k b cs' t' hk).1,(h.bk k b cs' t' hk).2.alloc _⟩
  ·rw[yL hl]at hk;have hj:k-L.length=0:=by have:=(zY.1 hk).1;simp at this;omega
   rw[hj]at hk;simp at hk;obtain⟨rfl,rfl,rfl⟩:=hk;exact⟨hs,Bk.new wx _ _⟩
 ·rcases zU i L.length with hl|hl<;>rcases zU j L.length with hl'|hl'
  ·rw[yY hl]at hi;rw[yY hl']at hj;exact h.df i j x y hi hj hij
  ·rw[yY hl]at hi;rw[yL hl']at hj;have hj0:j-L.length=0:=by have:=(zY.1 hj).1;simp at this;omega
   rw[hj0]at hj;simp at hj;subst hj;have:=hlt i x hi;simp only;omega
  ·rw[yL hl]at hi;rw[yY hl']at hj;have hi0:i-L.length=0:=by have:=(zY.1 hi).1;simp at this;omega
   rw[hi0]at hi;simp at hi;subst hi;have:=hlt j y hj;simp only;omega
  ·have h1:i-L.length=0:=by have:=(zY.1 hi).1;simp at this;omega
   have h2:j-L.length=0:=by have:=(zY.1 hj).1;simp at this;omega
   omega
theorem dV.set(h:dV w wx L)(k:Nat)(hk:L[k]?=some (b,cs,t))(i:Nat)(u:Value):dV w (wx.setCell ⟨b,i,none⟩ u) (L.set k (b,cs.setIfInBounds i u,t)):=by
 have hkl:=(zY.1 hk).1;have hb:∀(j:Nat) x,(L.set k (b,cs.setIfInBounds i u,t))[j]?=some x->∃y,L[j]?=some y/\x.1=y.1/\(j≠k->x=y)/\(j=k->x=(b,cs.setIfInBounds i u,t)):=by
  intro j x hj;by_cases e:j=k
  ·subst e;rw[wU hkl]at hj;injection hj with hj;subst hj;exact⟨_,hk,rfl,fun e=>absurd rfl e,fun _=>rfl⟩
  ·rw[wW (Ne.symm e)]at hj;exact⟨x,hj,rfl,fun _=>rfl,fun e'=>absurd e' e⟩
 refine⟨fun j b' cs' t' hj=>?_,fun i' j x y hi hj hij=>?_⟩
 ·obtain⟨y,h1,h2,h3,h4⟩:=hb j _ hj;by_cases e:j=k
  ·have:=h4 e;injection this with a1 a2;injection a2 with a2 a3;subst a1;subst a2;subst a3;exact⟨(h.bk k _ _ _ hk).1,(h.bk k _ _ _ hk).2.set i u⟩
  ·have:=h3 e;subst this;exact⟨(h.bk j _ _ _ h1).1,(h.bk j _ _ _ h1).2.far (a:=⟨b,i,none⟩) (h.df j k _ _ h1 hk e) u⟩
 ·obtain⟨x',h1,h2,_⟩:=hb i' _ hi;obtain⟨y',h1',h2',_⟩:=hb j _ hj;rw[h2,h2'];exact h.df i' j x' y' h1 h1' hij
theorem dV.grown(h:dV w wx L){row:Option Nat}(hg:wx.grownBy w' row)(hr:∀(k:Nat) x,L[k]?=some x->row≠some x.1):dV w w' L :=
 ⟨fun k b cs t hk=>⟨(h.bk k b cs t hk).1,(h.bk k b cs t hk).2.grown hg (hr k _ hk)⟩,h.df⟩
theorem dV.take(h:dV w wx L)(n:Nat):dV w wx (L.take n):=by
 have hb:∀(k:Nat) x,(L.take n)[k]?=some x->L[k]?=some x:=by
  intro k x hk;rw[yB]at hk;split at hk
  ·exact hk
  ·cases hk
 exact⟨fun k b cs t hk=>h.bk k b cs t (hb k _ hk),fun i j x y hi hj hij=>h.df i j x y (hb i _ hi) (hb j _ hj) hij⟩
end
structure Fr (p:Nat) (w wx:World) (L:BL):Prop where
 tp:bz wx p
 xt:XT p w wx
 hp:p<w.heap.size
 bl:dV w wx L
section
variable {p:Nat} {w wx w':World} {L:BL} {b:Nat} {cs:Array Value} {t:TypeId}
theorem Fr.start(h:bz w p):Fr p w w []:=⟨h,XT.refl _ _,h.lt,dV.nil _ _⟩
theorem Fr.step(h:Fr p w wx L)(hx:XT p wx w')(ht:bz w' p):Fr p w w' L:=⟨ht,h.xt.trans hx,h.hp,h.bl.xt hx h.hp⟩
theorem Fr.ext(h:Fr p w wx L)(hx:ab wx w'):Fr p w w' L:=h.step hx.xt (h.tp.ext hx)
theorem Fr.new(h:Fr p w wx L)(cs:Array Value)(t:TypeId):Fr p w (wx.alloc (.cells cs t)) (L++[(wx.heap.size,cs,t)]) :=
 ⟨h.tp.ext ((zE _).alloc _),h.xt.alloc _,h.hp,h.bl.new h.xt.size cs t⟩
theorem Fr.push(h:Fr p w wx L)(cs:Array Value)(t:TypeId){n:Nat}(hn:wx.heap.size=n):Fr p w (wx.alloc (.cells cs t)) (L++[(n,cs,t)]):=hn▸h.new cs t
theorem Fr.set(h:Fr p w wx L)(k:Nat)(hk:L[k]?=some (b,cs,t))(i:Nat)(u:Value):Fr p w (wx.setCell ⟨b,i,none⟩ u) (L.set k (b,cs.setIfInBounds i u,t)) :=
 ⟨h.tp.setNew (by have:=h.bl.ge k hk;have:=h.hp;simp only;omega) u,h.xt.setNew (by have:=h.bl.ge k hk;simp only;omega) u,h.hp,h.bl.set k hk i u⟩
theorem Fr.at_(h:Fr p w wx L)(k:Nat)(hk:L[k]?=some (b,cs,t)):Bk wx b cs t:=h.bl.at_ k hk
theorem Fr.take(h:Fr p w wx L)(n:Nat):Fr p w wx (L.take n):=⟨h.tp,h.xt,h.hp,h.bl.take n⟩
theorem Fr.drew(h:Fr p w wx L):Fr p w wx.drew L:=h.ext ((zE _).drew)
theorem Fr.grown(h:Fr p w wx L){row:Option Nat}(hg:wx.grownBy w' row)(hr:∀(k:Nat) x,L[k]?=some x->row≠some x.1)(hb:∀k,row=some k->w.heap.size<=k):Fr p w w' L :=
 ⟨h.tp.grown hg (fun k hk=>by have:=hb k hk;have:=h.hp;omega),h.xt.grown hg hb,h.hp,h.bl.grown hg hr⟩
theorem Fr.lt(h:Fr p w wx L):p<wx.heap.size:=zB h.hp h.xt.size
end
structure aA (w wx:World) (L:BL):Prop where
 xt:ab w wx
 bl:dV w wx L
section
variable {w wx w':World} {L:BL} {b:Nat} {cs:Array Value} {t:TypeId}
theorem aA.start(w:World):aA w w []:=⟨zE _,dV.nil _ _⟩
theorem aA.ext(h:aA w wx L)(hx:ab wx w'):aA w w' L:=⟨h.xt.trans hx,h.bl.ext hx⟩
theorem aA.new(h:aA w wx L)(cs:Array Value)(t:TypeId):aA w (wx.alloc (.cells cs t)) (L++[(wx.heap.size,cs,t)]):=⟨h.xt.alloc _,h.bl.new h.xt.size cs t⟩
theorem aA.push(h:aA w wx L)(cs:Array Value)(t:TypeId){n:Nat}(hn:wx.heap.size=n):aA w (wx.alloc (.cells cs t)) (L++[(n,cs,t)]):=hn▸h.new cs t
theorem aA.set(h:aA w wx L)(k:Nat)(hk:L[k]?=some (b,cs,t))(i:Nat)(u:Value):aA w (wx.setCell ⟨b,i,none⟩ u) (L.set k (b,cs.setIfInBounds i u,t)) :=
 ⟨h.xt.setCell (by have:=h.bl.ge k hk;simp only;omega) u,h.bl.set k hk i u⟩
theorem aA.at_(h:aA w wx L)(k:Nat)(hk:L[k]?=some (b,cs,t)):Bk wx b cs t:=h.bl.at_ k hk
theorem aA.take(h:aA w wx L)(n:Nat):aA w wx (L.take n):=⟨h.xt,h.bl.take n⟩
theorem aA.drew(h:aA w wx L):aA w wx.drew L:=h.ext ((zE _).drew)
theorem aA.grown(h:aA w wx L){row:Option Nat}(hg:wx.grownBy w' row)(hr:∀(k:Nat) x,L[k]?=some x->row≠some x.1)(hb:∀k,row=some k->w.heap.size<=k):aA w w' L :=
 ⟨h.xt.grown hg hb,h.bl.grown hg hr⟩
end
section
variable {P:Program} {ops:Array Oper} {Q:Exit->Act->World->Prop} {md:Region.Mode} {S S':World->Prop} {k:Nat}
theorem kt(h:∀w,S' w->S w):∀(fuel:Nat) (listed:Array Bool) (a:Act) (w:World),cM P md ops Q S' k fuel listed a w->cM P md ops Q S k fuel listed a w
 |0,_,_,_,H=>H
 |fuel+1,_,_,_,H=>⟨H.1,fun i hi=>wpOp_mono (fun _ _ H'=>⟨fun hk=>h _ (H'.1 hk),kt h fuel _ _ _ H'.2⟩) (H.2 i hi)⟩
end
open _root_.Go.Proofs.Tryz
theorem oV(p:Nat)(w:World)(h:bz w p) :
  Calls prog 86 #[.pointer (some ⟨p,0,none⟩)] w (iN p w fun v _=>∃x,v=.int .i64 x/\x∈([-1,0,1,2,31,32,99,100,200,201,9999,10000,1000000,1000001,1152921504606846976,1152921504606846977,-1152921504606846976,9223372036854775807,-9223372036854775808]:List Int)):=by
 have H:=zZ h;clear h;go_enter func86,ntmps86
 go_wp2_with (go_at_call 25;refine (dt p _ [-1,0,1,2,31,32,99,100,200,201,9999,10000,1000000,1000001,1152921504606846976,1152921504606846977,-1152921504606846976,9223372036854775807,-9223372036854775808] _ (H.out.ext ((zE _).alloc _)) (ak.lit _ _ H.out.lt (by decide) (by decide)) (by simp)).mono ?_;rintro e w1 ⟨v1,rfl,⟨x,rfl,hx⟩,HT,HX⟩;have HM:=zZ hx;clear hx);go_ret
 exact⟨_,rfl,⟨x,rfl,HM.out⟩,HT,XT.trans ((XT.refl _ _).alloc _) HX⟩
structure jz (p:Nat) (w wx:World) (G:Nat) (c0 cs:Array Value) (T:TypeId):Prop where
 tp:bz wx p
 xt:XT p w wx
 r0:Bk wx w.heap.size c0 T
 bx:Bk wx G cs T
 hG:w.heap.size<G
section
variable {p G:Nat} {w wx w':World} {c0 cs:Array Value} {T:TypeId}
theorem jz.step(h:jz p w wx G c0 cs T)(hp:p<w.heap.size)(hx:XT p wx w')(ht:bz w' p):jz p w w' G c0 cs T :=
 ⟨ht,h.xt.trans hx,h.r0.xt hx (by omega),h.bx.xt hx (by have:=h.hG;omega),h.hG⟩
theorem jz.set(h:jz p w wx G c0 cs T)(hp:p<w.heap.size)(i:Nat)(u:Value):jz p w (wx.setCell ⟨G,i,none⟩ u) G c0 (cs.setIfInBounds i u) T :=
 ⟨h.tp.setNew (by have:=h.hG;simp only;omega) u,h.xt.setNew (by have:=h.hG;simp only;omega) u,h.r0.far (by have:=h.hG;simp only;omega) u,h.bx.set i u,h.hG⟩
end
def JF(s:bN):Prop:=s.wf/\(s.t<=30\/s.s<=3)/\s.s≠50/\s.s≠60
def Li(s:bN):Value:=.agg #[B C s.t,B C s.s,B C s.q]
theorem rl{x:Int}(h:x∈([-1,0,1,2,31,32,99,100,200,201,9999,10000,1000000,1000001,1152921504606846976,1152921504606846977,-1152921504606846976,9223372036854775807,-9223372036854775808]:List Int)):aU x/\x≠50/\x≠60:=(by decide:∀x∈([-1,0,1,2,31,32,99,100,200,201,9999,10000,1000000,1000001,1152921504606846976,1152921504606846977,-1152921504606846976,9223372036854775807,-9223372036854775808]:List Int),aU x/\x≠50/\x≠60) x h
theorem Eh(p:Nat)(w:World)(h:bz w p) :
  Calls prog 50 #[.pointer (some ⟨p,0,none⟩),B C 3] w (iN p w fun v _=>∃s,v=Li s/\JF s):=by
 have hlt:=h.lt;have H:Bx (bz (w.alloc (.cells #[B C 0,B C 0,B C 0] 35)) p):=⟨h.ext ((zE _).alloc _)⟩
 clear h;go_enter func50,ntmps50
 go_wp2_with fail;refine (az p 0 24 _ H.out (by omega) (by omega) (by omega) (by omega)).mono ?_;rintro e w1 ⟨v1,rfl,⟨t,rfl,ht1,ht2⟩,HT1,HX1⟩;go_wp2_with fail;refine (az p 0 3 _ HT1 (by omega) (by omega) (by omega) (by omega)).mono ?_;rintro e w2 ⟨v2,rfl,⟨s,rfl,hs1,hs2⟩,HT2,HX2⟩;go_wp2_with fail;refine (az p 0 9 _ HT2 (by omega) (by omega) (by omega) (by omega)).mono ?_;rintro e w3 ⟨v3,rfl,⟨q,rfl,hq1,hq2⟩,HT3,HX3⟩;obtain⟨w4,hw4⟩:=nm (w3.alloc (.cells #[B C t,B C s,B C q] 35));have HX:XT p (w.alloc (.cells #[B C 0,B C 0,B C 0] 35)) w3:=(HX1.trans HX2).trans HX3;have hsz:=HX.size;have HS:Bx (jz p w w4 w3.heap.size #[B C 0,B C 0,B C 0] #[B C t,B C s,B C q] 35) :=
  ⟨by rw[hw4];exact⟨HT3.ext ((zE _).alloc _),(((XT.refl _ _).alloc _).trans HX).alloc _,((Bk.new w _ _).xt HX (by omega)).alloc _,Bk.new w3 _ _,by simp at hsz;omega⟩⟩
 clear HT1 HX1 HT2 HX2 HT3 HX3 HX H;go_wp2_with fail;rw[<-hw4];clear hw4;refine (fe p 3 _ HS.out.tp (by omega) (by omega)).mono ?_;rintro e w5 ⟨v5,rfl,⟨b,rfl⟩,HT5,HX5⟩;have HS5:=bx (HS.out.step hlt HX5 HT5);clear HS HT5 HX5;cases b with
 |false =>
  have g0:=HS5.out.bx.c 0 rfl;have g1:=HS5.out.bx.c 1 rfl;have g2:=HS5.out.bx.c 2 rfl;have z0:=HS5.out.r0.c 0 rfl;have z1:=HS5.out.r0.c 1 rfl;have z2:=HS5.out.r0.c 2 rfl;have f0:=HS5.out.r0.froz 0;have f1:=HS5.out.r0.froz 1;have f2:=HS5.out.r0.froz 2;go_wp2_with fail;refine bodyPost_ret (v:=.agg #[B C t,B C s,B C q]) (by simp[results,results50,go_sem,g0,g1,g2,z0,z1,z2]) rfl ⟨_,rfl,⟨⟨t,s,q⟩,rfl,⟨⟨by constructor<;>(simp only;omega),by constructor<;>(simp only;omega),by constructor<;>(simp only;omega)⟩,by simp only;omega,by simp only;omega,by simp only;omega⟩⟩,((HS5.out.tp.setNew hlt _).setNew hlt _).setNew hlt _,((HS5.out.xt.setNew (zX _) _).setNew (zX _) _).setNew (zX _) _⟩
 |true =>
  go_wp2_with fail;refine (am p 3 _ HS5.out.tp (by omega)).mono ?_;rintro e w6 ⟨v6,rfl,⟨r,rfl,hr1,hr2⟩,HT6,HX6⟩;have HS6:=bx (HS5.out.step hlt HX6 HT6);clear HS5 HT6 HX6;by_cases c0:r=0
  ·subst c0;have k0:((0:Int)==0)=true:=rfl;go_wp2_with fail;refine (oV p _ HS6.out.tp).mono ?_;rintro e w7 ⟨v7,rfl,⟨x,rfl,hx⟩,HT7,HX7⟩;have HW:=rl hx;have HS7:=bx (HS6.out.step hlt HX7 HT7);have HS8:Bx (jz p w (w7.setCell ⟨w3.heap.size,0,none⟩ (B C x)) w3.heap.size #[B C 0,B C 0,B C 0] #[B C x,B C s,B C q] 35):=⟨HS7.out.set hlt 0 _⟩
   have hxb:aU x:=HW.1;have hx5:x≠50/\x≠60:=HW.2;obtain⟨hxb1,hxb2⟩:=hxb;obtain⟨hx50,hx60⟩:=hx5;clear HS6 HT7 HX7 hx HW;have q0:=HS7.out.bx.c 0 rfl;have qf:=HS7.out.bx.froz 0;have g0:=HS8.out.bx.c 0 rfl;have g1:=HS8.out.bx.c 1 rfl;have g2:=HS8.out.bx.c 2 rfl;have z0:=HS8.out.r0.c 0 rfl;have z1:=HS8.out.r0.c 1 rfl;have z2:=HS8.out.r0.c 2 rfl;have f0:=HS8.out.r0.froz 0;have f1:=HS8.out.r0.froz 1;have f2:=HS8.out.r0.froz 2;go_wp2_with fail;refine bodyPost_ret (v:=.agg #[B C x,B C s,B C q]) (by simp[results,results50,go_sem,g0,g1,g2,z0,z1,z2]) rfl ⟨_,rfl,⟨⟨x,s,q⟩,rfl,⟨⟨by constructor<;>(simp only;omega),by constructor<;>(simp only;omega),by constructor<;>(simp only;omega)⟩,by simp only;omega,by simp only;omega,by simp only;omega⟩⟩,((HS8.out.tp.setNew hlt _).setNew hlt _).setNew hlt _,((HS8.out.xt.setNew (zX _) _).setNew (zX _) _).setNew (zX _) _⟩
  ·have k0:(r==0)=false:=beq_eq_false_iff_ne.2 c0;by_cases c1:r=1
   ·have k1:(r==1)=true:=by rw[c1];rfl
    go_wp2_with fail;refine (oV p _ HS6.out.tp).mono ?_;rintro e w7 ⟨v7,rfl,⟨x,rfl,hx⟩,HT7,HX7⟩;have HW:=rl hx;have HS7:=bx (HS6.out.step hlt HX7 HT7);have HS8:Bx (jz p w (w7.setCell ⟨w3.heap.size,1,none⟩ (B C x)) w3.heap.size #[B C 0,B C 0,B C 0] #[B C t,B C x,B C q] 35):=⟨HS7.out.set hlt 1 _⟩
    have hxb:aU x:=HW.1;have hx5:x≠50/\x≠60:=HW.2;obtain⟨hxb1,hxb2⟩:=hxb;obtain⟨hx50,hx60⟩:=hx5;clear HS6 HT7 HX7 hx HW;have q0:=HS7.out.bx.c 1 rfl;have qf:=HS7.out.bx.froz 1;have g0:=HS8.out.bx.c 0 rfl;have g1:=HS8.out.bx.c 1 rfl;have g2:=HS8.out.bx.c 2 rfl;have z0:=HS8.out.r0.c 0 rfl;have z1:=HS8.out.r0.c 1 rfl;have z2:=HS8.out.r0.c 2 rfl;have f0:=HS8.out.r0.froz 0;have f1:=HS8.out.r0.froz 1;have f2:=HS8.out.r0.froz 2;go_wp2_with fail;refine bodyPost_ret (v:=.agg #[B C t,B C x,B C q]) (by simp[results,results50,go_sem,g0,g1,g2,z0,z1,z2]) rfl ⟨_,rfl,⟨⟨t,x,q⟩,rfl,⟨⟨by constructor<;>(simp only;omega),by constructor<;>(simp only;omega),by constructor<;>(simp only;omega)⟩,by simp only;omega,by simp only;omega,by simp only;omega⟩⟩,((HS8.out.tp.setNew hlt _).setNew hlt _).setNew hlt _,((HS8.out.xt.setNew (zX _) _).setNew (zX _) _).setNew (zX _) _⟩
   ·have k1:(r==1)=false:=beq_eq_false_iff_ne.2 c1;go_wp2_with fail;refine (oV p _ HS6.out.tp).mono ?_;rintro e w7 ⟨v7,rfl,⟨x,rfl,hx⟩,HT7,HX7⟩;have HW:=rl hx;have HS7:=bx (HS6.out.step hlt HX7 HT7);have HS8:Bx (jz p w (w7.setCell ⟨w3.heap.size,2,none⟩ (B C x)) w3.heap.size #[B C 0,B C 0,B C 0] #[B C t,B C s,B C x] 35):=⟨HS7.out.set hlt 2 _⟩
    have hxb:aU x:=HW.1;have hx5:x≠50/\x≠60:=HW.2;obtain⟨hxb1,hxb2⟩:=hxb;obtain⟨hx50,hx60⟩:=hx5;clear HS6 HT7 HX7 hx HW;have q0:=HS7.out.bx.c 2 rfl;have qf:=HS7.out.bx.froz 2;have g0:=HS8.out.bx.c 0 rfl;have g1:=HS8.out.bx.c 1 rfl;have g2:=HS8.out.bx.c 2 rfl;have z0:=HS8.out.r0.c 0 rfl;have z1:=HS8.out.r0.c 1 rfl;have z2:=HS8.out.r0.c 2 rfl;have f0:=HS8.out.r0.froz 0;have f1:=HS8.out.r0.froz 1;have f2:=HS8.out.r0.froz 2;go_wp2_with fail;refine bodyPost_ret (v:=.agg #[B C t,B C s,B C x]) (by simp[results,results50,go_sem,g0,g1,g2,z0,z1,z2]) rfl ⟨_,rfl,⟨⟨t,s,x⟩,rfl,⟨⟨by constructor<;>(simp only;omega),by constructor<;>(simp only;omega),by constructor<;>(simp only;omega)⟩,by simp only;omega,by simp only;omega,by simp only;omega⟩⟩,((HS8.out.tp.setNew hlt _).setNew hlt _).setNew hlt _,((HS8.out.xt.setNew (zX _) _).setNew (zX _) _).setNew (zX _) _⟩
theorem qx{w:World}{b off:Nat}{cs:List Value}{x:fv}(hc:∀j u,cs[j]?=some u->w.cell? ⟨b,off+j,none⟩=some u)(h:lR w cs x) :
  w.cell? ⟨b,off,none⟩=some (B C x.cand)/\w.cell? ⟨b,off+1,none⟩=some (B C x.cen)/\w.cell? ⟨b,off+2,none⟩=some (B C x.var):=by
 obtain⟨rfl,_⟩:=h;exact⟨hc 0 _ rfl,hc 1 _ rfl,hc 2 _ rfl⟩
theorem my(p:Nat)(v:Value)(s:dl)(w:World)(h:bz w p)(hs:aR p w v s)(hw:ma s) :
  Calls prog 49 #[.pointer (some ⟨p,0,none⟩),v] w (iN p w fun v _=>∃l:cJ,v=l.val/\l.wf):=by
 obtain⟨vP,vB,vX,rfl,_,_,hX,hnum⟩:=hs;obtain⟨A,n,c,rfl,hnc,hc,hnn,HL⟩:=hX.open_;obtain⟨hn1,hn2⟩:=hnum;have hlt:=h.lt;have hn5:n<=5:=by have:=HL.out;have:=hw.xpn;omega
 have HW:Bx (∀x∈s.xp,-1<=x.cand/\x.cand<=10000/\0<=x.cen/\x.cen<=100∧-1<=x.var/\x.var<=2):=⟨hw.xp⟩
 obtain⟨w1,hw1⟩:=nm ((((w.alloc (.cells #[B C s.num,vP,vB,D A n c] 29)).alloc (.cells #[B C 0,B C 0,B C 0,B C 0] 39)).alloc (.cells #[B C s.num,B C 0,B C 0,B C 0] 39)):World);have HF:Bx (Fr p w w1 [(w.heap.size,#[B C s.num,vP,vB,D A n c],29),(w.heap.size+1,#[B C 0,B C 0,B C 0,B C 0],39),(w.heap.size+2,#[B C s.num,B C 0,B C 0,B C 0],39)]) :=
  ⟨by rw[hw1];exact (((Fr.start h).push _ _ rfl).push _ _ (by simp)).push _ _ (by simp)⟩
 have HX:Bx (jh p w1 (D A n c) s.xp):=⟨by rw[hw1];exact hX.ext (lR.stab p) ((((zE _).alloc _).alloc _).alloc _)⟩
 clear h hX hw;go_enter func49,ntmps49
 go_upto_if 13 with (fail)
 rw[<-hw1];clear hw1;go_cut [] (fun wx=>∃a b c' d:Int,aU a/\aU b/\aU c'/\aU d/\Bx (Fr p w wx [(w.heap.size,#[B C s.num,vP,vB,D A n c],29),(w.heap.size+1,#[B C 0,B C 0,B C 0,B C 0],39),(w.heap.size+2,#[B C a,B C b,B C c',B C d],39)]))
 case first =>
  by_cases h0:0<n
  ·obtain⟨b,off,cs0,x0,rfl,-⟩:=HX.out.at_ h0;go_upto_region 3 with (fail)
   go_cut [6] (fun s6 wx=>∃(g:Nat) (x:fv),s6=.pointer (some ⟨g,0,none⟩)/\Bx (x.wf/\Fr p w wx [(w.heap.size,#[B C s.num,vP,vB,D (some ⟨b,off,none⟩) n c],29),(w.heap.size+1,#[B C 0,B C 0,B C 0,B C 0],39),(w.heap.size+2,#[B C s.num,B C 0,B C 0,B C 0],39),(g,#[B C x.cand,B C x.cen,B C x.var],56)]))
   case first =>
    have g3:w1.drew.cell? ⟨w.heap.size,3,none⟩=some (D (some ⟨b,off,none⟩) n c):=(HF.out.drew.at_ 0 rfl).c 3 rfl;refine zR 10 (fun w'=>w'.cell? ⟨w.heap.size,3,none⟩=some (D (some ⟨b,off,none⟩) n c)) ?_;refine zS 6 [(0,14),(1,15),(2,16),(3,17),(4,18),(5,19)] g3 ?_;iterate 6 refine zT ?_
    refine zN (an 6 9 (by kernel_rfl) rfl rfl (fun K hK=>?_) (fun K hK=>?_))
    ·go_simp;refine (am p n _ HF.out.drew.tp (by omega)).mono ?_;rintro e w2 ⟨v2,rfl,⟨r,rfl,hr1,hr2⟩,HT2,HX2⟩;obtain⟨r,rfl⟩:=zG hr1;have hrn:r<n:=by omega
     have HF2:Bx (Fr p w w2 [(w.heap.size,#[B C s.num,vP,vB,D (some ⟨b,off,none⟩) n c],29),(w.heap.size+1,#[B C 0,B C 0,B C 0,B C 0],39),(w.heap.size+2,#[B C s.num,B C 0,B C 0,B C 0],39)]):=⟨HF.out.drew.step HX2 HT2⟩
     have HX2':Bx (jh p w2 (D (some ⟨b,off,none⟩) n c) s.xp):=⟨(HX.out.ext (lR.stab p) ((zE _).drew)).xt (lR.stab p) HX2⟩
     have g3':w2.cell? ⟨w.heap.size,3,none⟩=some (D (some ⟨b,off,none⟩) n c):=(HF2.out.at_ 0 rfl).c 3 rfl;clear HT2 HX2;obtain⟨cs,x,hcl,hcc,hRx,hxx⟩:=HX2'.out.cell_ hrn;obtain⟨x0',x1',x2'⟩:=qx hcc hRx;have hxw:Bx x.wf:=⟨hRx.2⟩
     clear hcc hRx hcl hxx;refine hK.out _ _ (fun _=>(g3')) ?_;clear hK K;try simp only[kA]
     refine kt (S':=(fun w'=>w'.cell? ⟨w.heap.size,3,none⟩=some (D (some ⟨b,off,none⟩) n c)/\w'.cell? ⟨b,off+r*3,none⟩=some (B C x.cand)/\w'.cell? ⟨b,off+r*3+1,none⟩=some (B C x.cen)/\w'.cell? ⟨b,off+r*3+2,none⟩=some (B C x.var))) (fun _ h=>h.1) _ _ _ _ ?_;have g4:=yJ g3' (yJ x0' (yJ x1' x2'));refine zS 2 [(7,21),(8,22)] g4 ?_;iterate 2 refine zT ?_
     refine zN (zO 9 (fun K hK=>?_));go_simp;refine hK.out _ _ (fun _=>(⟨((zE w2).alloc _).cell g3',((zE w2).alloc _).cell x0',((zE w2).alloc _).cell x1',((zE w2).alloc _).cell x2'⟩)) ?_;clear hK K;try simp only[kA]
     refine zO 10 (fun K hK=>?_);go_simp;refine hK.out _ _ (fun h=>absurd rfl h) ?_;clear hK K;refine zD ?_;go_wp2_with fail;go_meet
     exact⟨w2.heap.size,x,rfl,⟨hxw.out,HF2.out.new _ _⟩⟩
    ·go_simp;obtain⟨w3,hw3⟩:=nm ((w1.alloc (.cells #[B C 0,B C 0,B C 0] 56)).drew:World);have HF3:Bx (Fr p w w3 [(w.heap.size,#[B C s.num,vP,vB,D (some ⟨b,off,none⟩) n c],29),(w.heap.size+1,#[B C 0,B C 0,B C 0,B C 0],39),(w.heap.size+2,#[B C s.num,B C 0,B C 0,B C 0],39),(w1.heap.size,#[B C 0,B C 0,B C 0],56)]):=⟨by rw[hw3];exact (HF.out.new _ _).drew⟩
     have HX3:Bx (jh p w3 (D (some ⟨b,off,none⟩) n c) s.xp):=⟨by rw[hw3];exact HX.out.ext (lR.stab p) (((zE _).alloc _).drew)⟩
     have g33:w3.cell? ⟨w.heap.size,3,none⟩=some (D (some ⟨b,off,none⟩) n c):=(HF3.out.at_ 0 rfl).c 3 rfl;rw[<-hw3];clear hw3;refine hK.out _ _ (fun _=>(g33)) ?_;clear hK K;try simp only[kA]
     refine zO 6 (fun K hK=>?_);go_simp;refine (am p n _ HF3.out.tp (by omega)).mono ?_;rintro e w2 ⟨v2,rfl,⟨r,rfl,hr1,hr2⟩,HT2,HX2⟩;obtain⟨r,rfl⟩:=zG hr1;have hrn:r<n:=by omega
     have HF2:=bx (HF3.out.step HX2 HT2);have HX2':Bx (jh p w2 (D (some ⟨b,off,none⟩) n c) s.xp):=⟨HX3.out.xt (lR.stab p) HX2⟩
     have g3':w2.cell? ⟨w.heap.size,3,none⟩=some (D (some ⟨b,off,none⟩) n c):=(HF2.out.at_ 0 rfl).c 3 rfl;clear HT2 HX2;obtain⟨cs,x,hcl,hcc,hRx,hxx⟩:=HX2'.out.cell_ hrn;obtain⟨x0',x1',x2'⟩:=qx hcc hRx;have hxw:Bx x.wf:=⟨hRx.2⟩
     clear hcc hRx hcl hxx;refine hK.out _ _ (fun _=>(g3')) ?_;clear hK K;try simp only[kA]
     refine kt (S':=(fun w'=>w'.cell? ⟨w.heap.size,3,none⟩=some (D (some ⟨b,off,none⟩) n c)/\w'.cell? ⟨b,off+r*3,none⟩=some (B C x.cand)/\w'.cell? ⟨b,off+r*3+1,none⟩=some (B C x.cen)/\w'.cell? ⟨b,off+r*3+2,none⟩=some (B C x.var))) (fun _ h=>h.1) _ _ _ _ ?_;have g4:=yJ g3' (yJ x0' (yJ x1' x2'));refine zS 2 [(7,21),(8,22)] g4 ?_;iterate 2 refine zT ?_
     refine zN ?_;obtain⟨z0,z1,z2⟩:=(HF2.out.at_ 3 rfl).p3 rfl;have f0:=(HF2.out.at_ 3 rfl).froz;have f1:=f0;have f2:=f0;refine zO 10 (fun K hK=>?_);go_simp;refine hK.out _ _ (fun h=>absurd rfl h) ?_;clear hK K;refine zD ?_;go_wp2_with fail;go_meet
     exact⟨w1.heap.size,x,rfl,⟨hxw.out,((HF2.out.set 3 rfl 0 _).set 3 rfl 1 _).set 3 rfl 2 _⟩⟩
   case rest =>
    obtain⟨g,x,rfl,HR⟩:=hcut;clear HF HX;obtain⟨⟨hx1,hx1'⟩,-,hx3,hx3'⟩:=HR.out.1;go_upto_region 4 with (fail)
    have k0:wc.drew.cell? ⟨g,0,none⟩=some (B C x.cand)/\wc.drew.cell? ⟨g,2,none⟩=some (B C x.var):=⟨(HR.out.2.drew.at_ 3 rfl).c 0 rfl,(HR.out.2.drew.at_ 3 rfl).c 2 rfl⟩
    refine zR 11 (fun w'=>w'.cell? ⟨g,0,none⟩=some (B C x.cand)/\w'.cell? ⟨g,2,none⟩=some (B C x.var)) ?_;refine zS 6 [(0,23),(1,24),(2,25),(3,26),(4,27),(6,29)] k0 ?_;iterate 6 refine zT ?_
    refine zN (zO 5 (fun K hK=>?_));go_simp;refine (am p 4 _ HR.out.2.drew.tp (by omega)).mono ?_;rintro e w2 ⟨v2,rfl,⟨r,rfl,hr1,hr2⟩,HT2,HX2⟩;have H1:Bx (Fr p w w2 [(w.heap.size,#[B C s.num,vP,vB,D (some ⟨b,off,none⟩) n c],29),(w.heap.size+1,#[B C 0,B C 0,B C 0,B C 0],39),(w.heap.size+2,#[B C s.num,B C 0,B C 0,B C 0],39),(g,#[B C x.cand,B C x.cen,B C x.var],56)]):=⟨HR.out.2.drew.step HX2 HT2⟩
    clear HT2 HX2 k0;have k1:=yJ ((H1.out.at_ 3 rfl).c 0 rfl) ((H1.out.at_ 3 rfl).c 2 rfl);refine hK.out _ _ (fun _=>(k1)) ?_;clear hK K;try simp only[kA]
    clear k1;have q1:=(H1.out.at_ 2 rfl).c 1 rfl;have f1:=(H1.out.at_ 2 rfl).froz;refine zO 7 (fun K hK=>?_);go_simp;obtain⟨w3,hw3⟩:=nm ((w2.setCell ⟨w.heap.size+2,1,none⟩ (B C x.cand)):World);have H3:Bx (Fr p w w3 [(w.heap.size,#[B C s.num,vP,vB,D (some ⟨b,off,none⟩) n c],29),(w.heap.size+1,#[B C 0,B C 0,B C 0,B C 0],39),(w.heap.size+2,#[B C s.num,B C x.cand,B C 0,B C 0],39),(g,#[B C x.cand,B C x.cen,B C x.var],56)]):=⟨by rw[hw3];exact H1.out.set 2 rfl 1 _⟩
    rw[<-hw3];clear hw3 q1 f1 H1;have k3:=yJ ((H3.out.at_ 3 rfl).c 0 rfl) ((H3.out.at_ 3 rfl).c 2 rfl);refine hK.out _ _ (fun _=>(k3)) ?_;clear hK K;try simp only[kA]
    refine zS 1 [(8,30)] k3 ?_;refine zT ?_;refine zN ?_;clear k3;have q3:=(H3.out.at_ 2 rfl).c 3 rfl;have f3:=(H3.out.at_ 2 rfl).froz;refine zO 9 (fun K hK=>?_);go_simp;obtain⟨w4,hw4⟩:=nm ((w3.setCell ⟨w.heap.size+2,3,none⟩ (B C x.var)):World);have H4:Bx (Fr p w w4 [(w.heap.size,#[B C s.num,vP,vB,D (some ⟨b,off,none⟩) n c],29),(w.heap.size+1,#[B C 0,B C 0,B C 0,B C 0],39),(w.heap.size+2,#[B C s.num,B C x.cand,B C 0,B C x.var],39),(g,#[B C x.cand,B C x.cen,B C x.var],56)]):=⟨by rw[hw4];exact H3.out.set 2 rfl 3 _⟩
    rw[<-hw4];clear hw4 q3 f3 H3;have k4:=yJ ((H4.out.at_ 3 rfl).c 0 rfl) ((H4.out.at_ 3 rfl).c 2 rfl);refine hK.out _ _ (fun _=>(k4)) ?_;clear hK K;try simp only[kA]
    refine zS 1 [(10,31)] k4 ?_;refine zT ?_;refine zN ?_;clear k4;have q2:=(H4.out.at_ 2 rfl).c 2 rfl;have f2:=(H4.out.at_ 2 rfl).froz;refine zO 11 (fun K hK=>?_);go_simp;refine hK.out _ _ (fun h=>absurd rfl h) ?_;clear hK K;refine zD ?_;go_wp2_with fail;go_meet
    exact⟨s.num,x.cand,r,x.var,⟨hn1,hn2⟩,⟨hx1,hx1'⟩,⟨by omega,by omega⟩,⟨hx3,hx3'⟩,⟨(H4.out.set 2 rfl 2 _).take 3⟩⟩
  ·go_wp2_with fail;go_meet
   exact⟨s.num,0,0,0,⟨hn1,hn2⟩,by decide,by decide,by decide,HF⟩
 case rest =>
  obtain⟨a,b,c',d,⟨ha1,ha2⟩,⟨hb1,hb2⟩,⟨hc1,hc2⟩,⟨hd1,hd2⟩,HR⟩:=hcut;clear HF HX;go_wp2_with fail;refine (fe p 10 _ HR.out.tp (by omega) (by omega)).mono ?_;rintro e w5 ⟨v5,rfl,⟨b5,rfl⟩,HT5,HX5⟩;have H5:=bx (HR.out.step HX5 HT5);clear HR HT5 HX5;cases b5 with
  |false =>
   obtain⟨g0,g1,g2,g3⟩:=(H5.out.at_ 2 rfl).p4 rfl;obtain⟨z0,z1,z2,z3⟩:=(H5.out.at_ 1 rfl).p4 rfl;have f0:=(H5.out.at_ 1 rfl).froz;have f1:=f0;have f2:=f0;have f3:=f0;go_wp2_with fail;have H6:=(((H5.out.set 1 rfl 0 (B C a)).set 1 rfl 1 (B C b)).set 1 rfl 2 (B C c')).set 1 rfl 3 (B C d);refine bodyPost_ret (v:=.agg #[B C a,B C b,B C c',B C d]) (by simp[results,results49,go_sem,g0,g1,g2,g3,z0,z1,z2,z3]) rfl ⟨_,rfl,⟨⟨a,b,c',d⟩,rfl,⟨ha1,ha2⟩,⟨hb1,hb2⟩,⟨hc1,hc2⟩,⟨hd1,hd2⟩⟩,H6.tp,H6.xt⟩
  |true =>
   go_wp2_with fail;refine (am p 4 _ H5.out.tp (by omega)).mono ?_;rintro e w6 ⟨v6,rfl,⟨r,rfl,hr1,hr2⟩,HT6,HX6⟩;have H6:=bx (H5.out.step HX6 HT6);clear H5 HT6 HX6;by_cases c0:r=0
   ·subst c0;have k0:((0:Int)==0)=true:=rfl;go_wp2_with fail;refine (az p 0 2 _ H6.out.tp (by omega) (by omega) (by omega) (by omega)).mono ?_;rintro e w7 ⟨v7,rfl,⟨y,rfl,hy1,hy2⟩,HT7,HX7⟩;have H7:=bx (H6.out.step HX7 HT7);clear H6 HT7 HX7;have q0:=(H7.out.at_ 2 rfl).c 0 rfl;have qf:=(H7.out.at_ 2 rfl).froz;have H8:Bx (Fr p w (w7.setCell ⟨w.heap.size+2,0,none⟩ (B C y)) [(w.heap.size,#[B C s.num,vP,vB,D A n c],29),(w.heap.size+1,#[B C 0,B C 0,B C 0,B C 0],39),(w.heap.size+2,#[B C y,B C b,B C c',B C d],39)]):=⟨H7.out.set 2 rfl 0 _⟩
    clear H7;obtain⟨g0,g1,g2,g3⟩:=(H8.out.at_ 2 rfl).p4 rfl;obtain⟨z0,z1,z2,z3⟩:=(H8.out.at_ 1 rfl).p4 rfl;have f0:=(H8.out.at_ 1 rfl).froz;have f1:=f0;have f2:=f0;have f3:=f0;go_wp2_with fail;have H9:=(((H8.out.set 1 rfl 0 (B C y)).set 1 rfl 1 (B C b)).set 1 rfl 2 (B C c')).set 1 rfl 3 (B C d);refine bodyPost_ret (v:=.agg #[B C y,B C b,B C c',B C d]) (by simp[results,results49,go_sem,g0,g1,g2,g3,z0,z1,z2,z3]) rfl ⟨_,rfl,⟨⟨y,b,c',d⟩,rfl,by constructor<;>(simp only;omega),by constructor<;>(simp only;omega),by constructor<;>(simp only;omega),by constructor<;>(simp only;omega)⟩,H9.tp,H9.xt⟩
   have k0:(r==0)=false:=beq_eq_false_iff_ne.2 c0;by_cases c1:r=1
   ·have k1:(r==1)=true:=by rw[c1];rfl
    go_wp2_with fail;refine (am p 6 _ H6.out.tp (by omega)).mono ?_;rintro e w7 ⟨v7,rfl,⟨y,rfl,hy1,hy2⟩,HT7,HX7⟩;have H7:=bx (H6.out.step HX7 HT7);clear H6 HT7 HX7;have q0:=(H7.out.at_ 2 rfl).c 1 rfl;have qf:=(H7.out.at_ 2 rfl).froz;have H8:Bx (Fr p w (w7.setCell ⟨w.heap.size+2,1,none⟩ (B C y)) [(w.heap.size,#[B C s.num,vP,vB,D A n c],29),(w.heap.size+1,#[B C 0,B C 0,B C 0,B C 0],39),(w.heap.size+2,#[B C a,B C y,B C c',B C d],39)]):=⟨H7.out.set 2 rfl 1 _⟩
    clear H7;obtain⟨g0,g1,g2,g3⟩:=(H8.out.at_ 2 rfl).p4 rfl;obtain⟨z0,z1,z2,z3⟩:=(H8.out.at_ 1 rfl).p4 rfl;have f0:=(H8.out.at_ 1 rfl).froz;have f1:=f0;have f2:=f0;have f3:=f0;go_wp2_with fail;have H9:=(((H8.out.set 1 rfl 0 (B C a)).set 1 rfl 1 (B C y)).set 1 rfl 2 (B C c')).set 1 rfl 3 (B C d);refine bodyPost_ret (v:=.agg #[B C a,B C y,B C c',B C d]) (by simp[results,results49,go_sem,g0,g1,g2,g3,z0,z1,z2,z3]) rfl ⟨_,rfl,⟨⟨a,y,c',d⟩,rfl,by constructor<;>(simp only;omega),by constructor<;>(simp only;omega),by constructor<;>(simp only;omega),by constructor<;>(simp only;omega)⟩,H9.tp,H9.xt⟩
   have k1:(r==1)=false:=beq_eq_false_iff_ne.2 c1;by_cases c2:r=2
   ·have k2:(r==2)=true:=by rw[c2];rfl
    go_wp2_with fail;refine (am p 3 _ H6.out.tp (by omega)).mono ?_;rintro e w7 ⟨v7,rfl,⟨y,rfl,hy1,hy2⟩,HT7,HX7⟩;have H7:=bx (H6.out.step HX7 HT7);clear H6 HT7 HX7;have q0:=(H7.out.at_ 2 rfl).c 3 rfl;have qf:=(H7.out.at_ 2 rfl).froz;have H8:Bx (Fr p w (w7.setCell ⟨w.heap.size+2,3,none⟩ (B C y)) [(w.heap.size,#[B C s.num,vP,vB,D A n c],29),(w.heap.size+1,#[B C 0,B C 0,B C 0,B C 0],39),(w.heap.size+2,#[B C a,B C b,B C c',B C y],39)]):=⟨H7.out.set 2 rfl 3 _⟩
    clear H7;obtain⟨g0,g1,g2,g3⟩:=(H8.out.at_ 2 rfl).p4 rfl;obtain⟨z0,z1,z2,z3⟩:=(H8.out.at_ 1 rfl).p4 rfl;have f0:=(H8.out.at_ 1 rfl).froz;have f1:=f0;have f2:=f0;have f3:=f0;go_wp2_with fail;have H9:=(((H8.out.set 1 rfl 0 (B C a)).set 1 rfl 1 (B C b)).set 1 rfl 2 (B C c')).set 1 rfl 3 (B C y);refine bodyPost_ret (v:=.agg #[B C a,B C b,B C c',B C y]) (by simp[results,results49,go_sem,g0,g1,g2,g3,z0,z1,z2,z3]) rfl ⟨_,rfl,⟨⟨a,b,c',y⟩,rfl,by constructor<;>(simp only;omega),by constructor<;>(simp only;omega),by constructor<;>(simp only;omega),by constructor<;>(simp only;omega)⟩,H9.tp,H9.xt⟩
   have k2:(r==2)=false:=beq_eq_false_iff_ne.2 c2;go_wp2_with fail;refine (az p 3 9 _ H6.out.tp (by omega) (by omega) (by omega) (by omega)).mono ?_;rintro e w7 ⟨v7,rfl,⟨y,rfl,hy1,hy2⟩,HT7,HX7⟩;have H7:=bx (H6.out.step HX7 HT7);clear H6 HT7 HX7;have q0:=(H7.out.at_ 2 rfl).c 2 rfl;have qf:=(H7.out.at_ 2 rfl).froz;have H8:Bx (Fr p w (w7.setCell ⟨w.heap.size+2,2,none⟩ (B C y)) [(w.heap.size,#[B C s.num,vP,vB,D A n c],29),(w.heap.size+1,#[B C 0,B C 0,B C 0,B C 0],39),(w.heap.size+2,#[B C a,B C b,B C y,B C d],39)]):=⟨H7.out.set 2 rfl 2 _⟩
   clear H7;obtain⟨g0,g1,g2,g3⟩:=(H8.out.at_ 2 rfl).p4 rfl;obtain⟨z0,z1,z2,z3⟩:=(H8.out.at_ 1 rfl).p4 rfl;have f0:=(H8.out.at_ 1 rfl).froz;have f1:=f0;have f2:=f0;have f3:=f0;go_wp2_with fail;have H9:=(((H8.out.set 1 rfl 0 (B C a)).set 1 rfl 1 (B C b)).set 1 rfl 2 (B C y)).set 1 rfl 3 (B C d);refine bodyPost_ret (v:=.agg #[B C a,B C b,B C y,B C d]) (by simp[results,results49,go_sem,g0,g1,g2,g3,z0,z1,z2,z3]) rfl ⟨_,rfl,⟨⟨a,b,y,d⟩,rfl,by constructor<;>(simp only;omega),by constructor<;>(simp only;omega),by constructor<;>(simp only;omega),by constructor<;>(simp only;omega)⟩,H9.tp,H9.xt⟩
theorem kY(code var:Int)(v vb:Value)(ps:List av)(pgs:List (List Int))(w:World){p:Nat}(h:oa p w v ps)(hb:oc p w vb pgs) :
  Calls prog 96 #[.agg #[B C code,B C var,v],.agg #[vb]] w fun e w'=>e=.returned (.bool (jH code var ps pgs))/\ab w w':=by
 obtain⟨A,n,c,rfl,hnc,hc,hnn,HL⟩:=h.open_;obtain⟨Ab,m,cb,rfl,hmc,hcb,hmm,HM⟩:=hb.open_;have H:=zZ h;have HB:=zZ hb;clear h hb;go_enter func96,ntmps96
 go_wp2_with fail;refine (kP _ _ _ ps _ ((H.out.ext (bC.stab p) ((zE _).alloc _)).ext (bC.stab p) ((zE _).alloc _))).mono ?_;rintro e w1 ⟨rfl,hx1⟩;have HE1:=zZ (ab.trans (((zE w).alloc _).alloc _) hx1);have d0:w1.cell? ⟨w.heap.size+1,0,none⟩=some (D Ab m cb):=hx1.cell (by simp);have b2:w1.cell? ⟨w.heap.size,2,none⟩=some (D A n c):=hx1.cell (by simp);have D0:=zZ d0;have B2:=zZ b2;have HI1:=zZ (H.out.ext (bC.stab p) HE1.out);have HP1:=zZ (HB.out.ext (RI.stab p) HE1.out);clear hx1;cases hv:fD code var ps with
 |false =>
  have HF:=zZ (dE (fun hk=>by have:=hk.1;rw[hv]at this;cases this):jH code var ps pgs=false);clear hv;go_wp2_with fail;go_ret
  exact⟨aa HF.out.symm,HE1.out⟩
 |true =>
 have HV:=zZ hv;have hvp:=mD hv;have hn1:1<=n:=by have:=HL.out;omega
 have hn24:n<=24:=by have:=HL.out;omega
 clear hv hvp;by_cases hm:m<=12/\m%4=0;case neg =>
  have HF:=zZ (dE (fun hk=>hm (by have h1:=hk.2.1;have h2:=hk.2.2.1;rw[HM.out]at h1 h2;exact⟨h1,h2⟩)):jH code var ps pgs=false);by_cases h12:12<m
  ·clear hm;go_wp2_with fail;go_ret
   exact⟨aa HF.out.symm,HE1.out⟩
  ·have e4:((m:Int)%4 != 0)=true:=by simp;omega
   clear hm;go_wp2_with fail;go_ret
   exact⟨aa HF.out.symm,HE1.out⟩
 case pos =>
 obtain⟨hm12,hm4⟩:=hm;have e4:((m:Int)%4 != 0)=false:=by simp;omega
 have HM4:=zZ hm4;clear hm4;go_wp2_with fail;clear d0 b2 e4;go_loopw [5,30] (fun s5 s30 wr=>∃(i nx:Nat),i<=m/\nx<=n/\s30=B C i/\s5=B C nx/\Hid (kZ code var ps pgs i nx/\(0<i->∀l,pgs[0]?=some l->l=[])/\ab w1 wr)) (fun _ i _=>m-(intOf i).toNat)
 case atStart=>exact⟨0,0,by omega,by omega,rfl,rfl,kZ.start _ _ _ _,fun h=>absurd h (by omega),zE _⟩
 case round =>
  obtain⟨wo,rfl⟩:=nm (wr:World);obtain⟨i,nx,hi,hnx,rfl,rfl,HR⟩:=hrel;by_cases hlt:i<m
  ·obtain⟨bb,ob,cs0,l0,rfl,_⟩:=HB.out.at_ hlt;obtain⟨u,l,hcu,hIu,HX⟩:=(HP1.out.ext (RI.stab p) HR.out.2.2).page hlt;obtain⟨Au,nu,cu,rfl,hnu,hcu',hnnu,HLU⟩:=hIu.open_;have HIU:=zZ hIu;clear hIu;by_cases hi0:i=0/\0<nu
   ·obtain⟨hi00,hnu0⟩:=hi0;have HF:=zZ (dE (fun hk=>by have:=hk.2.2.2.1 l (by rw[<-hi00];exact HX.out);have h2:=HLU.out;rw[this]at h2;simp at h2;omega):jH code var ps pgs=false);have e0:((i:Int)==0)=true:=by simp[hi00]
    clear hi00;go_wp2_with fail;go_ret
    exact⟨aa HF.out.symm,HE1.out.trans HR.out.2.2⟩
   ·have H0:Hid (0<i+1->∀l,pgs[0]?=some l->l=[]):=fun _ l' hl'=>by
     by_cases e:i=0
     ·subst e;rw[HX.out]at hl';have:=xF hl';subst this;have:=HLU.out;exact xZ (by omega)
     ·exact HR.out.2.1 (by omega) l' hl'
    have hor:(∃_h:((i:Int)==0)=true,nu<1)\/(∃_h:((i:Int)==0)=false,nu<10000000000000000000):=by
     by_cases e:i=0
     ·exact .inl ⟨by simp[e],by omega⟩
     ·exact .inr ⟨by simp;omega,by omega⟩
    clear hi0;go_upto_region 7 with (fail)
    go_cut [41] (fun s41 wx=>s41=.bool false/\wo=wx)
    case first =>
     rcases hor with ⟨e0,hnu1⟩|⟨e0,hnu1⟩
     ·go_wp2_with fail;go_meet
      exact⟨by simp;omega,rfl⟩
     ·go_wp2_with fail;go_meet
      exact⟨rfl,rfl⟩
    case rest =>
    obtain⟨rfl,hwx⟩:=hcut;subst hwx;clear hor;go_wp2_with fail;go_loopw [5,8,44] (fun s5 s8 s44 wr=>∃(k:Nat) (ln:Int),k<=nu/\nx+k<=n/\0<=ln/\ln<=30*k/\s5=B C ((nx:Int)+k)/\s8=B C ln/\s44=B C k/\Hid (ln=nA (ps.map db) nx k/\nf (ps.map db) nx l k/\ab wo wr)) (fun _ _ i _=>nu-(intOf i).toNat)
    case atStart=>exact⟨0,0,by omega,by omega,by omega,by omega,by simp,rfl,rfl,(oN _ _).symm,rN (by have:=HL.out;simp;omega) _,zE _⟩
    case round =>
     obtain⟨k,ln,hk,hnk,hln0,hln1,rfl,rfl,rfl,HQ⟩:=hrel;have HEW:=zZ (HR.out.2.2.trans HQ.out.2.2);have b2:=HEW.out.cell B2.out;by_cases hklt:k<nu
     ·obtain⟨bu,ou,y,rfl,hcy,HY,hy1,hy2⟩:=(HIU.out.ext HQ.out.2.2).at_ hklt;by_cases hg:y=(nx:Int)+k/\nx+k<n
      ·obtain⟨hye,hnkn⟩:=hg;subst hye;obtain⟨b,off,cs1,q1,rfl,_⟩:=H.out.at_ hnkn;obtain⟨q,c0,c1,c2,c3,c4,c5,hw,HXq⟩:=(HI1.out.ext (bC.stab p) HEW.out).part hnkn;have hnb:=qp q;go_wp2_with fail;refine (Gk q _).mono ?_;rintro e w2 ⟨rfl,hx2⟩;clear c0 c1 c2 c3 c4 c5 b2 hcy;generalize hxq:db q=x at *
       have HXN:Hid ((ps.map db)[nx+k]?=some x):=by have:=nY HXq.out;rw[hxq]at this;exact this
       clear hxq;go_wp2_with fail;go_roundw
       case rel=>exact⟨k+1,ln+x,by omega,by omega,by omega,by omega,by go_num,rfl,by go_num,by rw[lx HXN.out,<-HQ.out.1],qK HQ.out.2.1 HY.out (by simp) (by have:=HL.out;simp;omega),HQ.out.2.2.trans hx2⟩
       case measure=>simp[intOf];omega
      ·have HF:=zZ (dE (HR.out.1.bad HX.out (D7 HY.out (by have:=HL.out;simp;omega))):jH code var ps pgs=false);by_cases hye:y=(nx:Int)+k
       ·subst hye;have hnkn:n<=nx+k:=by omega
        clear hg;go_wp2_with fail;go_ret
        exact⟨aa HF.out.symm,HE1.out.trans HEW.out⟩
       ·have e5:(y != (nx:Int)+k)=true:=by simp;exact hye
        clear hg hye;go_wp2_with fail;go_ret
        exact⟨aa HF.out.symm,HE1.out.trans HEW.out⟩
     ·obtain rfl:k=nu:=by omega
      by_cases hln:ln<=30
      ·have HOK:Hid (oW (ps.map db) nx l):=⟨by rw[HLU.out];exact HQ.out.2.1,by rw[HLU.out,<-HQ.out.1];exact hln⟩
       go_wp2_with fail;go_roundw
       case rel=>exact⟨i+1,nx+k,by omega,by omega,by go_num,by go_num,by have:=HR.out.1.next HX.out HOK.out;rw[HLU.out]at this;exact this,H0.out,HEW.out⟩
       case measure=>simp[intOf];omega
      ·have HF:=zZ (dE (HR.out.1.bad HX.out (fun hk=>hln (by have:=hk.2;rw[HLU.out,<-HQ.out.1]at this;exact this))):jH code var ps pgs=false);go_wp2_with fail;go_ret
       exact⟨aa HF.out.symm,HE1.out.trans HEW.out⟩
  ·obtain rfl:i=m:=by omega
   have b2:=HR.out.2.2.cell B2.out;have HFIN:Hid (decide (nx=n)=jH code var ps pgs):=by
    show decide (nx=n)=jH code var ps pgs
    have hl:=HR.out.1.fin HM.out;rw[HL.out]at hl;by_cases e:nx=n
    ·rw[qh ⟨HV.out,by rw[HM.out];exact hm12,by rw[HM.out];exact HM4.out,fun l hl'=>HR.out.2.1 (by have:=(zY.1 hl').1;rw[HM.out]at this;omega) l hl',hl.2 e⟩];simp[e]
    ·rw[dE (fun hk=>e (hl.1 hk.2.2.2.2))];simp[e]
   go_wp2_with fail;go_ret
   exact⟨aa (by rw[<-HFIN.out,yE];simp;omega),HE1.out.trans HR.out.2.2⟩
end Go.Proofs.YtpaidaphacoblaaGreatDoor

