import Derived.Lib.SliceRun
import Derived.Test.YtkaajgoeahahpaaGreatDoorK2
set_option linter.all false
set_option maxRecDepth 100000
set_option maxHeartbeats 0
namespace Go.Proofs.YtkaajgoeahahpaaGreatDoor
open Go.RowKit
variable {p:Nat} {w:World}
theorem ak.sub{b off n c x y:Nat}{l:List Int}(h:ak p w (.slice (some ⟨b,off,none⟩) n c) l)(hxy:x<y)(hy:y<=n):ak p w (.slice (some ⟨b,off+x,none⟩) (y-x) (y-x)) ((l.take y).drop x):=by
 have hl:=h.len;obtain⟨A',c',hv,h1,h2,h3,h5,h4⟩:=h;injection hv with ha hn hc;subst ha;subst hc;have hlk:((l.take y).drop x).length=y-x:=by rw[wD,yW];omega
 refine⟨_,y-x,by rw[hlk],by omega,by omega,by omega,fun z hz=>h5 z (uI (List.mem_of_mem_drop hz)),fun i z hz=>?_⟩;rw[vR,yB]at hz;split at hz
 ·obtain⟨b',off',ha,hb,hcell⟩:=h4 _ z hz;injection ha with ha;injection ha with e1 e2;subst e1;subst e2;exact⟨b,off+x,rfl,hb,by rw[wC];exact hcell⟩
 ·cases hz
def KS(fs:List lY)(f t:Nat)(x:Int):Prop:=∀k q,f<=k->k<t->fs[k]?=some q->q.part=x
theorem KS.step{fs:List lY}{f t:Nat}{x:Int}{q:lY}(h:KS fs f t x)(hq:fs[t]?=some q)(hx:q.part=x):KS fs f (t+1) x:=by
 intro k r hk hkt hr;rcases zU k t with h1|h1
 ·exact h k r hk h1 hr
 ·obtain rfl:k=t:=by omega
  rw[hq]at hr;injection hr with hr;subst hr;exact hx
def zn(p base eS:Nat)(w1 w:World)(v:Value)(ls:List (List Int)):Prop :=
 ∃us:List Value,us.length=ls.length/\w.ownsRow base eS 1 v ls.length us/\ab w1 w/\∀(j:Nat) (u:Value) (l:List Int),us[j]?=some u->ls[j]?=some l->ak p w1 u l
theorem zn.isP{base eS:Nat}{w1:World}{v:Value}{ls:List (List Int)}(h:zn p base eS w1 w v ls)(hp:p<base):oc p w v ls:=by obtain⟨us,a,b,c,f⟩:=h;refine bj.of_own (e:=eS) (us.map fun u=>[u]) (by simp) (by decide) (by simpa using a) (by rw[AY];exact b) hp ?_;intro k cs x hcs hx;simp only[zP,yO]at hcs;obtain⟨u,hu,rfl⟩:=hcs;exact⟨u,rfl,(f k u x hu hx).ext c⟩
theorem zn.push{base eS:Nat}{w1 w':World}{v v' u:Value}{ls:List (List Int)}{us:List Value}{l:List Int}(h:zn p base eS w1 w v ls)(hus:w.ownsRow base eS 1 v ls.length us)(hu:ak p w1 u l)(hx:ab w1 w')(h':w'.ownsRow base eS 1 v' (ls.length+1) (us++[u])):zn p base eS w1 w' v' (ls++[l]):=by
 obtain⟨us0,a,b,c,f⟩:=h;obtain rfl:=rR b hus;refine⟨us0++[u],by simp[a],by simpa using h',hx,fun j z m hz hm=>?_⟩;rcases zU j ls.length with hj|hj
 ·rw[yY (by omega)]at hz;rw[yY hj]at hm;exact f j z m hz hm
 ·rw[yL (by omega)]at hz;rw[yL hj]at hm;have hj0:j-ls.length=0:=by
   have:=(zY.1 hm).1;simp at this;omega
  rw[a,hj0]at hz;rw[hj0]at hm;simp at hz hm;subst hz;subst hm;exact hu
end Go.Proofs.YtkaajgoeahahpaaGreatDoor

