import Derived.Test.YtkaajgoeahahpaaGreatDoorCapS
set_option linter.all false
set_option maxRecDepth 100000
set_option maxHeartbeats 0
namespace Go.Proofs.YtkaajgoeahahpaaGreatDoor
open Go.RowKit
def hZ(w:World)(base:Nat)(v:Value)(l:List Int):Prop:=w.ownsRow base 3 1 v l.length (l.map (Value.int .i64))/\(∀x∈l,aU x)/\l.length<=1000000
section
variable {p base:Nat} {w w':World} {v:Value} {l:List Int}
theorem hZ.xt(h:hZ w base v l)(hx:XT p w w')(hp:p<base):hZ w' base v l:=⟨dD h.1 hx hp,h.2⟩
theorem hZ.ext(h:hZ w base v l)(hx:ab w w'):hZ w' base v l:=⟨ao h.1 hx,h.2⟩
theorem hZ.base_{b:Nat}(h:hZ w base v l)(hb:b<=base):hZ w b v l:=⟨cd h.1 hb,h.2⟩
theorem hZ.isI(h:hZ w base v l)(hp:p<base):ak p w v l:=ak.of_own h.1 hp h.2.1 (by have:=h.2.2;omega)
theorem hZ.form(h:hZ w base v l):∃A c,v=.slice A l.length c:=by
 rcases h.1.2 with ⟨e,h0⟩|⟨g,cap,cur,e,_⟩
 ·exact⟨none,0,by rw[e,h0]⟩
 ·exact⟨_,_,e⟩
theorem hZ.apart{b e size n:Nat}{z:Value}{xs:List Value}(h:hZ w base v l)(ho:w.ownsRow b e size z n xs)(he:3≠e)(hg:w.grownBy w' z.ownBlock):hZ w' base v l :=
 ⟨aJ h.1 hg fun k hk e'=>cA h.1 ho he k hk e',h.2⟩
theorem hZ.far{g:Nat}{cs:Array Value}{t:TypeId}(h:hZ w base v l)(hb:Bk w g cs t)(ht:t≠3)(i:Nat)(u:Value):hZ (w.setCell ⟨g,i,none⟩ u) base v l :=
 ⟨aN (a:=⟨g,i,none⟩) h.1 (aG h.1 hb ht) u,h.2⟩
theorem hZ.sets{g:Nat}{cs:Array Value}{t:TypeId}(h:hZ w base v l)(hb:Bk w g cs t)(ht:t≠3)(i:Nat)(vs:List Value):hZ (be w g i vs) base v l:=by
 induction vs generalizing w cs i with
 |nil=>exact h
 |cons u vs ih=>exact ih (h.far hb ht i u) (hb.set i u) (i+1)
theorem hZ.nil(w:World)(base:Nat):hZ w base (.slice none 0 0) []:=⟨yZ _ _ _ _,by simp,by simp⟩
end
structure pU {α:Type} (base e size:Nat) (f:α->List Value) (ok:World->α->Prop) (w:World) (v:Value) (ys:List α):Prop where
 own:da base e size f w v ys
 el:∀y∈ys,ok w y
section
variable {α:Type} {p base e size:Nat} {f:α->List Value} {ok:World->α->Prop} {w w':World} {v v':Value} {ys:List α}
theorem pU.nil(ok:World->α->Prop)(w:World):pU base e size f ok w (.slice none 0 0) ([]:List α):=⟨da.nil,fun y h=>by simp at h⟩
theorem pU.ext(h:pU base e size f ok w v ys)(hs:∀y,ok w y->ok w' y)(hx:ab w w'):pU base e size f ok w' v ys:=⟨h.own.ext hx,fun y hy=>hs y (h.el y hy)⟩
theorem pU.push{y:α}(h:pU base e size f ok w v ys)(ho:w'.ownsRow base e size v' (ys.length+1) ((ys.map f).flatten++f y))(hs:∀y,ok w y->ok w' y)(hy:ok w' y):pU base e size f ok w' v' (ys++[y]) :=
 ⟨da.push ho,fun z hz=>by
  rcases zM.1 hz with hz|hz
  ·exact hs z (h.el z hz)
  ·obtain rfl:z=y:=by simpa using hz
   exact hy⟩
theorem pU.form(h:pU base e size f ok w v ys):∃A c,v=.slice A ys.length c:=h.own.form
theorem pU.isS{β:Type}{R:World->List Value->β->Prop}(g:α->β)(h:pU base e size f ok w v ys)(hp:p<base)(hsz:0<size)(hf:∀y∈ys,(f y).length=size)(hR:∀y∈ys,ok w y->R w (f y) (g y)):bj p size R w v (ys.map g):=by
 refine bj.of_own (e:=e) (ys.map f) (fun cs hcs=>by obtain⟨y,hy,rfl⟩:=zF.1 hcs;exact hf y hy) hsz (by simp) (by rw[zJ];exact h.own) hp ?_;intro k cs x hcs hx;simp only[zP,yO]at hcs hx;obtain⟨y,hy,rfl⟩:=hcs;obtain⟨z,hz,rfl⟩:=hx;rw[hy]at hz;injection hz with hz;subst hz
 exact hR y (zW hy) (h.el y (zW hy))
end
end Go.Proofs.YtkaajgoeahahpaaGreatDoor

