import Derived.Test.YtkaajgoeahahpaaGreatDoorK53
set_option linter.all false
set_option maxRecDepth 100000
set_option maxHeartbeats 0
namespace Go.Proofs.YtkaajgoeahahpaaGreatDoor
open Go.RowKit
def EB(p:Nat)(wa wx:World)(v:Value)(ol:List Int)(l:List aj)(k:Nat)(m:List aj):Prop :=
 ah wa.heap.size 47 13 (bR p wa) wx v m/\m.length=k/\(∀(j:Nat) c,m[j]?=some c->∃x,ol[j]?=some x/\l[x.toNat]?=some c)/\ab wa wx
section
variable {p k n:Nat} {w wa wx w':World} {v v':Value} {ol:List Int} {l m:List aj} {c:aj} {x:Int}
theorem EB.nil:EB p wa wa (.slice none 0 0) ol l 0 []:=⟨ah.nil,rfl,fun j c h=>by simp at h,zE _⟩
theorem EB.push(h:EB p wa wx v ol l k m)(ho:ah wa.heap.size 47 13 (bR p wa) w' v' (m++[c]))(hx:ab wa w')(h1:ol[k]?=some x)(h2:l[x.toNat]?=some c):EB p wa w' v' ol l (k+1) (m++[c]):=by
 refine⟨ho,by simp[h.2.1],fun j d hj=>?_,hx⟩;rcases zU j m.length with hl|hl
 ·rw[yY hl]at hj;exact h.2.2.1 j d hj
 ·rw[yL hl]at hj;have h3:j-m.length=0:=by have:=(zY.1 hj).1;simp at this;omega
  rw[h3]at hj;simp at hj;subst hj;obtain rfl:j=k:=by have:=h.2.1;omega
  exact⟨x,h1,h2⟩
theorem EB.isCs(h:EB p wa wx v ol l k m)(hp:p<wa.heap.size):au p wx v m:=h.1.isS (by decide) hp fun cs y hy=>bR.stab _ _ _ cs y hy h.2.2.2.xt
theorem EB.mem(h:EB p wa wx v ol l ol.length m)(ho:∀y,y∈ol↔0<=y/\y<(l.length:Int)):c∈m↔c∈l:=by
 constructor
 ·intro hc;obtain⟨j,hj⟩:=zH hc;obtain⟨y,-,h2⟩:=h.2.2.1 j c hj;exact zW h2
 ·intro hc;obtain⟨i,hi⟩:=zH hc;have hil:=(zY.1 hi).1;obtain⟨j,hj⟩:=zH ((ho (i:Int)).2 ⟨by omega,by omega⟩);have hjl:=(zY.1 hj).1;obtain⟨d,hd⟩:∃d,m[j]?=some d:=⟨_,zV (by have:=h.2.1;omega)⟩
  obtain⟨y,h1,h2⟩:=h.2.2.1 j d hd;rw[hj]at h1;injection h1 with h1;subst h1
  rw[yC,hi]at h2;injection h2 with h2;subst h2
  exact zW hd
theorem KE.isI(h:KE w k n v)(hp:p<k)(hn:n<=1000):∃(A:Option Addr) (no co:Nat) (ol:List Int),v=.slice A no co/\ak p w v ol/\ol.length=no/\no<=n+3/\∀y,y∈ol↔0<=y/\y<(n:Int):=by obtain⟨ol,h1,h2,h3⟩:=h;have h4:ak p w v ol:=ak.of_own h1 hp (fun y hy=>by have:=(h2 y).1 hy;constructor<;>omega) (by omega);obtain⟨A,no,co,rfl,-⟩:=h4.open_;exact⟨A,no,co,ol,rfl,h4,h4.len,by have:=h4.len;omega,h2⟩
end
end Go.Proofs.YtkaajgoeahahpaaGreatDoor

