import Derived.Test.YtjgfgdcaocbfhaaGreatPart
import Derived.Laws.StructEq
set_option linter.all false
set_option maxRecDepth 100000
set_option maxHeartbeats 0
namespace Go.Proofs.YtjgfgdcaocbfhaaGreat
open Go.Value renaming int→B,slice→D
open Go.IntKind renaming i64→C
open Go.RowKit _root_.Go.Proofs.Tryz
variable {b base i j k n p:Nat} {w:World} {c pg:List Int} {code s var x:Int} {v:Value}
abbrev kr (p:Nat):World→Value→List ai→Prop:=bg p 6 aI
theorem bg.part{off c:Nat}{ps:List ai}(h:kr p w (D (some ⟨b,off,none⟩) n c) ps)(hk:k<n) :
  ∃q:ai,w.cell? ⟨b,off+k*6,none⟩=some (B C q.kind)∧w.cell? ⟨b,off+k*6+1,none⟩=some (B C q.max)∧w.cell? ⟨b,off+k*6+2,none⟩=some (B C q.topic) ∧
   w.cell? ⟨b,off+k*6+3,none⟩=some (B C q.obj)∧w.cell? ⟨b,off+k*6+4,none⟩=some (B C q.opts)∧w.cell? ⟨b,off+k*6+5,none⟩=some (B C q.key)∧Hid q.wf∧Hid (ps[k]?=some q):=by
 obtain⟨cs,q,hl,hc,⟨rfl,hw⟩,hx⟩:=h.cell_ hk;exact⟨q,hc 0 _ rfl,hc 1 _ rfl,hc 2 _ rfl,hc 3 _ rfl,hc 4 _ rfl,hc 5 _ rfl,hw,hx⟩
def rZ(ps:List ai)(k:Nat):Int:=((ps.take k).map ai.max).sum
def sm(ps:List ai):Int:=(ps.map ai.max).sum
theorem rr{ps:List ai}{q:ai}(hs:s=rZ ps k)(h:ps[k]?=some q):s+q.max=rZ ps (k+1):=by subst hs;unfold rZ;rw[ag h];simp
theorem Gn{ps:List ai}(hl:ps.length=n)(hs:s=rZ ps n):s=sm ps:=by subst hs;unfold rZ sm;rw[aD hl]
theorem rI(v:Value)(ps:List ai)(w:World)(h:kr p w v ps)(hb:∀q∈ps,0≤q.max∧q.max≤40)(hl24:ps.length≤24) :
  Calls prog 132 #[v] w fun e w'=>e=.returned (B C (sm ps))∧ab w w':=by
 obtain⟨A,n,c,rfl,hnc,hc,hnn,HL⟩:=h.open_;have hn24:n≤24:=by have:=HL.out;omega
 have H:=zZ h;have HB:=zZ hb;clear h hb;go_enter func132,ntmps132
 go_wp2_with fail;go_loopw [3,8] (fun s i wr=>∃(k:Nat) (t:Int),k≤n∧0≤t∧t≤40*k∧i=B C k∧s=B C t∧Hid (t=rZ ps k)∧Hid (ab w wr)) (fun _ i _=>n-(intOf i).toNat)
 case atStart=>exact⟨0,0,yK _,by omega,by omega,rfl,rfl,by simp[Hid,rZ],zE _⟩
 case round =>
  obtain⟨k,t,hk,ht0,ht1,rfl,rfl,HT,HE⟩:=hrel;by_cases hlt:k<n
  ·obtain⟨b,off,cs0,q0,rfl,_⟩:=H.out.at_ hlt;obtain⟨q,c0,c1,c2,c3,c4,c5,hw,HX⟩:=(H.out.ext (aI.stab p) HE.out).part hlt;have hbq:=HB.out q (zU HX.out);go_wp2_with fail;go_roundw
   case rel=>exact⟨k+1,t+q.max,by omega,by omega,by omega,by go_num,rfl,rr HT.out HX.out,HE.out.alloc _⟩
   case measure=>simp[intOf];omega
  ·obtain rfl:k=n:=by omega
   go_wp2_with fail;go_ret
   exact⟨ah (Gn HL.out HT.out),HE.out⟩
def d9(code var:Int)(ps:List ai):Bool:=decide (0≤code∧code≤31∧0≤var∧var<4∧1≤ps.length∧ps.length≤24)&&(ps.all j4&&decide (sm ps≤200))
theorem tM{ps:List ai}(hl:ps.length=n)(h:¬(0≤code∧code≤31∧0≤var∧var<4∧1≤n∧n≤24)):false=d9 code var ps:=by unfold d9;rw[hl];simp[h]
theorem uC{ps:List ai}{q:ai}(h:ps[k]?=some q)(hq:j4 q=false):false=d9 code var ps:=by
 have:ps.all j4=false:=by rw[xR];exact⟨q,zU h,by simp[hq]⟩
 unfold d9;simp[this]
theorem BC{ps:List ai}(hl:ps.length=n)(h:0≤code∧code≤31∧0≤var∧var<4∧1≤n∧n≤24)(ha:ps.all j4=true):decide (sm ps≤200)=d9 code var ps:=by unfold d9;rw[hl,ha,decide_eq_true h];simp
theorem iV{ps:List ai}(h:d9 code var ps=true):0≤code∧code≤31∧0≤var∧var<4∧1≤ps.length∧ps.length≤24∧ps.all j4=true∧sm ps≤200:=by unfold d9 at h;simp only[yY,decide_eq_true_eq]at h;obtain⟨⟨a,b,c,d,e,f⟩,g,i⟩:=h;exact⟨a,b,c,d,e,f,g,i⟩
theorem qU{f:ai→Bool}{l:List ai}{x:ai}(h:l[k]?=some x):(l.take (k+1)).all f=((l.take k).all f&&f x):=by rw[ag h];simp
theorem Hy{w1:World}{o:Obj}{a b c:Value}{t:TypeId}(ho:o=.cells #[a,b,c] t)(h:ab (w.alloc o) w1) :
  w1.cell? ⟨w.heap.size,0,none⟩=some a∧w1.cell? ⟨w.heap.size,1,none⟩=some b∧w1.cell? ⟨w.heap.size,2,none⟩=some c:=by
 subst ho;exact AI (h.blk (heap_alloc_new w _))
theorem gu(code var:Int)(v:Value)(ps:List ai)(w:World)(h:kr p w v ps) :
  Calls prog 106 #[.agg #[B C code,B C var,v]] w fun e w'=>e=.returned (.bool (d9 code var ps))∧ab w w':=by
 obtain⟨A,n,c,rfl,hnc,hc,hnn,HL⟩:=h.open_;have H:=zZ h;clear h;by_cases hh:0≤code∧code≤31∧0≤var∧var<4∧1≤n∧n≤24
 ·have HH:=zZ hh;obtain⟨h1,h2,h3,h4,h5,h6⟩:=hh;have hE0:ab w (w.alloc (.cells #[B C code,B C var,D A n c] 89)):=(zE _).alloc _;have HE0:=zZ hE0;clear hE0;go_enter func106,ntmps106
  go_wp2_with fail;go_loopw [36] (fun i wr=>∃(k:Nat),k≤n∧i=B C k∧Hid ((ps.take k).all j4=true)∧Hid (ab (w.alloc (.cells #[B C code,B C var,D A n c] 89)) wr)) (fun i _=>n-(intOf i).toNat)
  case atStart=>exact⟨0,yK _,rfl,by simp[Hid],zE _⟩
  case round =>
   obtain⟨k,hk,rfl,HA,HE⟩:=hrel;by_cases hlt:k<n
   ·obtain⟨b,off,cs0,q0,rfl,_⟩:=H.out.at_ hlt;obtain⟨q,c0,c1,c2,c3,c4,c5,hw,HX⟩:=((H.out.ext (aI.stab p) HE0.out).ext (aI.stab p) HE.out).part hlt;cases hv:j4 q with
    |false =>
     have HV:=zZ hv;clear hv;go_wp2_with fail;refine (fo q _).mono ?_;rintro e w1 ⟨rfl,hx1⟩;rw[HV.out];go_wp2_with fail;go_ret
     exact⟨aa (uC HX.out HV.out),(HE0.out.trans (HE.out.alloc _)).trans hx1⟩
    |true =>
     have HV:=zZ hv;clear hv;go_wp2_with fail;refine (fo q _).mono ?_;rintro e w1 ⟨rfl,hx1⟩;rw[HV.out];go_wp2_with fail;go_roundw
     case rel=>exact⟨k+1,by omega,by go_num,by show (ps.take (k+1)).all j4=true;rw[qU HX.out,HA.out,HV.out];rfl,(HE.out.alloc _).trans hx1⟩
     case measure=>simp[intOf];omega
   ·obtain rfl:k=n:=by omega
    have hall:ps.all j4=true:=by have:=HA.out;rw[aD HL.out]at this;exact this
    have HALL:=zZ hall;obtain⟨c0,c1,c2⟩:=Hy rfl HE.out;clear hall;go_wp2_with fail;refine (rI _ ps _ ((H.out.ext (aI.stab p) HE0.out).ext (aI.stab p) HE.out) (fun q hq=>by have:=je (yS.1 HALL.out q hq);omega) (by have:=HL.out;omega)).mono ?_;rintro e w1 ⟨rfl,hx1⟩;go_wp2_with fail;go_ret
    exact⟨aa (BC HL.out HH.out HALL.out),(HE0.out.trans HE.out).trans hx1⟩
 ·have HH:=zZ (tM HL.out hh);by_cases h1:0≤code∧code≤31∧0≤var∧var<4
  ·have h5:n<1∨24<n:=by omega
   clear hh;go_enter func106,ntmps106
   go_wp2_with fail;all_goals (go_ret;exact⟨aa HH.out,(zE _).alloc _⟩)
  ·clear hh;have h1':code<0∨31<code∨var<0∨4≤var:=by omega
   clear h1;go_enter func106,ntmps106
   go_wp2_with fail;all_goals (go_ret;exact⟨aa HH.out,(zE _).alloc _⟩)
theorem dG(code var:Int)(v:Value)(ps:List ai)(w:World)(h:kr p w v ps) :
  Calls prog 86 #[.agg #[B C code,B C var,v]] w fun e w'=>e=.returned (.bool (d9 code var ps))∧ab w w':=by
 obtain⟨A,n,c,rfl,hnc,hc,hnn,HL⟩:=h.open_;have H:=zZ h;clear h;by_cases hh:0≤code∧code≤31∧0≤var∧var<4∧1≤n∧n≤24
 ·have HH:=zZ hh;obtain⟨h1,h2,h3,h4,h5,h6⟩:=hh;have hE0:ab w (w.alloc (.cells #[B C code,B C var,D A n c] 89)):=(zE _).alloc _;have HE0:=zZ hE0;clear hE0;go_enter func86,ntmps86
  go_wp2_with fail;go_loopw [3,4] (fun s i wr=>∃(k:Nat) (t:Int),k≤n∧0≤t∧t≤40*k∧i=B C k∧s=B C t∧Hid (t=rZ ps k)∧Hid ((ps.take k).all j4=true)∧Hid (ab (w.alloc (.cells #[B C code,B C var,D A n c] 89)) wr)) (fun _ i _=>n-(intOf i).toNat)
  case atStart=>exact⟨0,0,yK _,by omega,by omega,rfl,rfl,by simp[Hid,rZ],by simp[Hid],zE _⟩
  case round =>
   obtain⟨k,t,hk,ht0,ht1,rfl,rfl,HT,HA,HE⟩:=hrel;obtain⟨b0,b1,b2⟩:=Hy rfl HE.out;by_cases hlt:k<n
   ·obtain⟨b,off,cs0,q0,rfl,_⟩:=H.out.at_ hlt;have HI:=zZ ((H.out.ext (aI.stab p) HE0.out).ext (aI.stab p) HE.out);obtain⟨q,c0,c1,c2,c3,c4,c5,hw,HX⟩:=HI.out.part hlt;cases hv:j4 q with
    |false =>
     have HV:=zZ hv;clear hv;go_wp2_with fail;refine (eK q _).mono ?_;rintro e w1 ⟨rfl,hx1⟩;rw[HV.out];go_wp2_with fail;go_ret
     exact⟨aa (uC HX.out HV.out),(HE0.out.trans HE.out).trans hx1⟩
    |true =>
     have HV:=zZ hv;have hbq:=je hv;clear hv;go_wp2_with fail;refine (eK q _).mono ?_;rintro e w1 ⟨rfl,hx1⟩;rw[HV.out];have d2:=hx1.cell b2;have e1:=hx1.cell c1;clear b0 b1 b2 c0 c1 c2 c3 c4 c5;go_wp2_with fail;go_roundw
     case rel=>exact⟨k+1,t+q.max,by omega,by omega,by omega,by go_num,rfl,rr HT.out HX.out,by show (ps.take (k+1)).all j4=true;rw[qU HX.out,HA.out,HV.out];rfl,HE.out.trans hx1⟩
     case measure=>simp[intOf];omega
   ·obtain rfl:k=n:=by omega
    have HALL:Hid (ps.all j4=true):=by have:=HA.out;rw[aD HL.out]at this;exact this
    go_wp2_with fail;go_ret
    exact⟨aa (by rw[←BC HL.out HH.out HALL.out,Gn HL.out HT.out]),HE0.out.trans HE.out⟩
 ·have HH:=zZ (tM HL.out hh);by_cases h1:0≤code∧code≤31∧0≤var∧var<4
  ·have h5:n<1∨24<n:=by omega
   clear hh;go_enter func86,ntmps86
   go_wp2_with fail;all_goals (go_ret;exact⟨aa HH.out,(zE _).alloc _⟩)
  ·clear hh;have h1':code<0∨31<code∨var<0∨4≤var:=by omega
   clear h1;go_enter func86,ntmps86
   go_wp2_with fail;all_goals (go_ret;exact⟨aa HH.out,(zE _).alloc _⟩)
section
variable {base eS eI H:Nat} {w w':World} {v v':Value} {ls:List (List Int)}
theorem ph{e size:Nat}{us us':List Value}(a:w.ownsRow base e size v n us)(b:w.ownsRow base e size v n us'):us=us':=by
 rcases a.2 with ⟨rfl,h0⟩|⟨g,cap,cur,rfl,_,hh,_,_,_,ht⟩
 ·have h1:=a.1;have h2:=b.1;rw[h0]at h1 h2
  have e1:us=[]:=yO (by simpa using h1);have e2:us'=[]:=yO (by simpa using h2);rw[e1,e2]
 ·rcases b.2 with ⟨e,_⟩|⟨g',cap',cur',e,_,hh',_,_,_,ht'⟩
  ·cases e
  ·injection e with e1 e2 e3;injection e1 with e1;injection e1 with e1;subst e1;rw[hh]at hh';injection hh' with hh';injection hh' with hc;subst hc;exact ht.symm.trans ht'
end
theorem eE.step{eS eI g cap:Nat}{d:List (List Int)}(h:eE p base eS eI w (D (some ⟨g,0,none⟩) (j+1) cap) (d++[c]))(hd:d.length=j)(hne:eS≠eI) :
  ∃(A:Option Addr) (n cu H:Nat),w.cell? ⟨g,j,none⟩=some (D A n cu)∧c.length=n∧base≤g∧base≤H∧H≤w.heap.size∧w.ownsRow H eI 1 (D A n cu) n (c.map (Value.int .i64)) ∧
   ∀(w1 w2:World) (u':Value) (x:Int),ab w w1→w1.grownBy w2 (Value.slice A n cu).ownBlock→w2.ownsRow H eI 1 u' (n+1) (c.map (Value.int .i64)++[B C x]) →
    w2.cell? ⟨g,j,none⟩=some (D A n cu)∧w2.frozen? ⟨g,j,none⟩=false∧eE p base eS eI (w2.setCell ⟨g,j,none⟩ u') (D (some ⟨g,0,none⟩) (j+1) cap) (d++[c++[x]]):=by
 have hls:(d++[c]).length=j+1:=by simp[hd]
 have hl1:(d++[c]).length-1=j:=by omega
 obtain⟨us,H,hus,hown,hbH,hH,hold,hlast⟩:=h.parts;have hcj:(d++[c])[(d++[c]).length-1]?=some c:=by rw[hl1,yT (by omega)];simp[hd]
 have hj:j<us.length:=by omega
 have huj:us[(d++[c]).length-1]?=some us[j]:=by rw[hl1];exact zW hj
 have ho:=hlast _ c huj hcj;obtain⟨A,n,cu,hv,hn⟩:∃A n cu,us[j]=D A n cu∧c.length=n:=by
  rcases ho.2 with ⟨e,h0⟩|⟨g',cap',cur,e,_⟩
  ·exact⟨none,0,0,e,h0⟩
  ·exact⟨_,_,cap',e,rfl⟩
 rw[hv]at ho huj;rw[hn]at ho;rw[hls]at hown;have hcell:w.cell? ⟨g,j,none⟩=some (D A n cu):=by rw[hown.cellAt j (by omega),zW hj,hv]
 have hbg:base≤g:=(hown.lt g rfl).1;refine⟨A,n,cu,H,hcell,hn,hbg,hbH,hH,ho,fun w1 w2 u' x hs hg h'=>?_⟩;have o1:=ac hown hs;have o2:w2.ownsRow base eS 1 (D (some ⟨g,0,none⟩) (j+1) cap) (j+1) us:=aE o1 hg fun k hk=>bE o1 (ac ho hs) hne k hk;refine⟨by rw[o2.cellAt j (by omega),zW hj,hv],o2.frozenAt j,?_⟩;subst hn;have hp:=eE.push (p:=p) (x:=x) (u':=u') (w1:=w1) (w':=w2) (ls:=d++[c]) (us:=us) (u:=D A c.length cu) (l:=c) (H:=H) (g:=g) (cap:=cap) (w:=w) (base:=base) (eS:=eS) (eI:=eI)
  (by rw[hls];exact h) hne (by simp) hs huj hcj (by rw[hls];exact hown) hg (by simpa using h') ho hbH hH hold
 rw[hl1,hls]at hp;have e:(d++[c]).set j (c++[x])=d++[c++[x]]:=by rw[List.set_append_right _ _ (by omega)];simp[hd]
 rw[e]at hp;exact hp
theorem eE.two(p:Nat)(w:World)(base eS eI:Nat)(hb:base≤w.heap.size):eE p base eS eI (w.alloc (.cells #[D none 0 0,D none 0 0] eS)) (D (some ⟨w.heap.size,0,none⟩) 2 2) [[],[]]:=by
 refine⟨[D none 0 0,D none 0 0],w.heap.size+1,rfl,?_,by omega,by simp,fun j u l hu hl hj=>?_,fun u l hu hl=>?_⟩
 ·exact World.ownsRow_lit w #[D none 0 0,D none 0 0] 2 hb (by unfold maxLen;omega) rfl
 ·simp at hj;obtain rfl:j=0:=by omega
  simp at hu hl;subst hu;subst hl;exact⟨yW _ _ _ _,fun k hk=>by simp[Value.ownBlock]at hk⟩
 ·simp at hu hl;subst hu;subst hl;exact yW _ _ _ _
theorem Gp{l:List Int}(h:l[k]?=some x):l.getD k 0=x:=by simp[List.getD,h]
def gs(ns:List Int):Nat→List (List Int)×List Int×Int
 |0=>([[]],[],0)
 |k+1=>if 30<(gs ns k).2.2+ns.getD k 0 then ((gs ns k).1++[(gs ns k).2.1],[(k:Int)],ns.getD k 0) else ((gs ns k).1,(gs ns k).2.1++[(k:Int)],(gs ns k).2.2+ns.getD k 0)
def gR(ns:List Int):List (List Int):=(gs ns ns.length).1++[(gs ns ns.length).2.1]
def CN(ls:List (List Int)):List (List Int):=ls++List.replicate ((4-ls.length%4)%4) []
def af(ps:List ai):List (List Int):=CN (gR (ps.map cm))
section
variable {ns:List Int} {k:Nat} {d:List (List Int)} {c:List Int} {s x:Int}
theorem yz(h:gs ns k=(d,c,s))(hx:ns[k]?=some x)(hf:s+x≤30):gs ns (k+1)=(d,c++[(k:Int)],s+x):=by unfold gs;rw[h];simp only;rw[Gp hx,if_neg (by omega)]
theorem xi(h:gs ns k=(d,c,s))(hx:ns[k]?=some x)(hf:30<s+x):gs ns (k+1)=(d++[c],[(k:Int)],x):=by unfold gs;rw[h];simp only;rw[Gp hx,if_pos hf]
end
theorem GV(ns:List Int)(hn:∀x∈ns,0≤x∧x≤30):∀k,k≤ns.length→0≤(gs ns k).2.2∧(gs ns k).2.2≤30∧(gs ns k).1.length≤k+1∧(gs ns k).2.1.length≤k ∧
  (∀l∈(gs ns k).1,∀y∈l,0≤y∧y<k)∧(∀y∈(gs ns k).2.1,0≤y∧y<k)∧(∀l∈(gs ns k).1,l.length≤k)∧((gs ns k).2.1=[]→(gs ns k).2.2=0∧k=0):=by
 intro k;induction k with
 |zero=>intro _;simp[gs]
 |succ k ih =>
  intro hk;obtain⟨h1,h2,h3,h4,h5,h6,h7,h8⟩:=ih (by omega);have hkl:k<ns.length:=by omega
  have hx:ns[k]?=some ns[k]:=zW hkl;have hb:=hn _ (xX hkl);obtain⟨d,c,s,e⟩:∃d c s,gs ns k=(d,c,s):=⟨_,_,_,rfl⟩
  rw[e]at h1 h2 h3 h4 h5 h6 h7 h8;simp only at h1 h2 h3 h4 h5 h6 h7 h8;by_cases hf:s+ns[k]≤30
  ·rw[yz e hx hf];simp only;refine⟨by omega,by omega,by omega,by simp;omega,?_,?_,fun l hl=>by have:=h7 l hl;omega,fun h=>by simp at h⟩
   ·intro l hl y hy;have:=h5 l hl y hy;omega
   ·intro y hy;rcases zC.1 hy with hy|hy
    ·have:=h6 y hy;omega
    ·simp at hy;omega
  ·rw[xi e hx (by omega)];simp only;refine⟨by omega,by omega,by simp;omega,by simp,?_,?_,?_,fun h=>by simp at h⟩
   ·intro l hl y hy;rcases zC.1 hl with hl|hl
    ·have:=h5 l hl y hy;omega
    ·simp at hl;subst hl;have:=h6 y hy;omega
   ·intro y hy;simp at hy;omega
   ·intro l hl;rcases zC.1 hl with hl|hl
    ·have:=h7 l hl;omega
    ·simp at hl;subst hl;omega
theorem E0{ls:List (List Int)}(h:ls.length%4≠0):CN (ls++[[]])=CN ls:=by
 unfold CN;have e:(4-ls.length%4)%4=(4-(ls++[[]]).length%4)%4+1:=by simp;omega
 rw[e,xV,List.replicate_succ];rfl
theorem EW{ls:List (List Int)}(h:ls.length%4=0):CN ls=ls:=by unfold CN;simp[h]
theorem pO(ps:List ai):∀x∈ps.map cm,0≤x∧x≤30:=by intro x hx;obtain⟨q,_,rfl⟩:=zJ.1 hx;exact nD q
theorem pb(ps:List ai):(gR (ps.map cm)).length≤ps.length+2∧(∀l∈gR (ps.map cm),l.length≤ps.length∧∀y∈l,0≤y∧y<ps.length):=by
 have h:=GV (ps.map cm) (pO ps) (ps.map cm).length (zX _);obtain⟨_,_,h3,h4,h5,h6,h7,_⟩:=h;unfold gR;simp only[zM]at *;refine⟨by simp;omega,fun l hl=>?_⟩;rcases zC.1 hl with hl|hl
 ·exact⟨h7 l hl,h5 l hl⟩
 ·simp at hl;subst hl;exact⟨h4,h6⟩
theorem lh(ps:List ai):(af ps).length≤ps.length+5∧(∀l∈af ps,l.length≤ps.length∧∀y∈l,0≤y∧y<ps.length):=by
 obtain⟨h1,h2⟩:=pb ps;unfold af CN;refine⟨by simp;omega,fun l hl=>?_⟩;rcases zC.1 hl with hl|hl
 ·exact h2 l hl
 ·rw[List.mem_replicate]at hl;rw[hl.2];simp
theorem kY{ps:List ai}{q:ai}(h:ps[k]?=some q):(ps.map cm)[k]?=some (cm q):=by simp[h]
theorem vO{ps:List ai}{d:List (List Int)}(hl:ps.length=n)(h:gs (ps.map cm) n=(d,c,s)):d++[c]=gR (ps.map cm):=by unfold gR;rw[zM,hl,h]
def lA(ns:List Int)(nx k:Nat):Int:=((ns.drop nx).take k).sum
def kV(ns:List Int)(nx:Nat)(pg:List Int)(k:Nat):Prop:=nx+k≤ns.length∧∀i y,i<k→pg[i]?=some y→y=((nx+i:Nat):Int)
def kz(ns:List Int)(nx:Nat)(pg:List Int):Prop:=kV ns nx pg pg.length∧lA ns nx pg.length≤30
def cT(ns:List Int):Nat→List (List Int)→Prop
 |nx,[]=>nx=ns.length
 |nx,pg::rest=>kz ns nx pg∧cT ns (nx+pg.length) rest
def CU(code var:Int)(ps:List ai)(pgs:List (List Int)):Prop :=
 d9 code var ps=true∧pgs.length≤12∧pgs.length%4=0∧(∀l,pgs[0]?=some l→l=[])∧cT (ps.map cm) 0 pgs
open Classical in
noncomputable def eU(code var:Int)(ps:List ai)(pgs:List (List Int)):Bool:=decide (CU code var ps pgs)
theorem nt{ps:List ai}{pgs:List (List Int)}(h:CU code var ps pgs):eU code var ps pgs=true:=by unfold eU;simp[h]
theorem cN{ps:List ai}{pgs:List (List Int)}(h:¬CU code var ps pgs):eU code var ps pgs=false:=by unfold eU;simp[h]
theorem jg{ps:List ai}{pgs:List (List Int)}(h:eU code var ps pgs=true):CU code var ps pgs:=by unfold eU at h;simpa using h
section
variable {ns:List Int} {nx k:Nat} {pg:List Int} {x y:Int}
theorem mw(ns:List Int)(nx:Nat):lA ns nx 0=0:=by simp[lA]
theorem jL(h:ns[nx+k]?=some x):lA ns nx (k+1)=lA ns nx k+x:=by
 unfold lA;have h':(ns.drop nx)[k]?=some x:=by rw[xB];exact h
 rw[ag h'];simp
theorem nR(h:nx≤ns.length)(pg:List Int):kV ns nx pg 0:=⟨by omega,fun i y hi=>by omega⟩
theorem pn(h:kV ns nx pg k)(hy:pg[k]?=some y)(he:y=((nx+k:Nat):Int))(hlt:nx+k<ns.length):kV ns nx pg (k+1):=by
 refine⟨by omega,fun i z hi hz=>?_⟩;by_cases e:i=k
 ·subst e;rw[hy]at hz;rw[←xN hz];exact he
 ·exact h.2 i z (by omega) hz
theorem Aj(hy:pg[k]?=some y)(h:y≠((nx+k:Nat):Int)∨ns.length≤nx+k):¬kz ns nx pg:=by
 intro hc;have hk:=(zY.1 hy).1;rcases h with h|h
 ·exact h (hc.1.2 k y hk hy)
 ·have:=hc.1.1;omega
end
def jo(code var:Int)(ps:List ai)(pgs:List (List Int))(i nx:Nat):Prop:=(cT (ps.map cm) 0 pgs↔cT (ps.map cm) nx (pgs.drop i))
theorem jo.start(code var:Int)(ps:List ai)(pgs:List (List Int)):jo code var ps pgs 0 0:=by unfold jo;simp
section
variable {code var:Int} {ps:List ai} {pgs:List (List Int)} {i nx:Nat} {pg:List Int}
theorem Bm{α:Type}{l:List α}{x:α}(h:l[i]?=some x):l.drop i=x::l.drop (i+1):=by obtain⟨hi,rfl⟩:=zY.1 h;exact List.drop_eq_getElem_cons hi
theorem jo.next(h:jo code var ps pgs i nx)(hp:pgs[i]?=some pg)(hk:kz (ps.map cm) nx pg):jo code var ps pgs (i+1) (nx+pg.length):=by
 unfold jo at *
 rw[h,Bm hp];exact⟨fun a=>a.2,fun a=>⟨hk,a⟩⟩
theorem jo.bad(h:jo code var ps pgs i nx)(hp:pgs[i]?=some pg)(hk:¬kz (ps.map cm) nx pg):¬CU code var ps pgs:=by rintro⟨_,_,_,_,ho⟩;unfold jo at h;rw[h,Bm hp]at ho;exact hk ho.1
theorem jo.fin(h:jo code var ps pgs i nx)(hi:pgs.length=i):cT (ps.map cm) 0 pgs↔nx=ps.length:=by unfold jo at h;rw[h,List.drop_of_length_le (by omega)];simp[cT]
end
structure eh where
 part:Int
 opt:Int
def rB:World→List Value→eh→Prop:=fun _ cs q=>cs=[B C q.part,B C q.opt]∧aC q.part∧aC q.opt
theorem rB.stab(p:Nat):kc p rB:=fun _ _ _ _ h _=>h
abbrev GW (p:Nat):World→Value→List eh→Prop:=bg p 2 rB
theorem bg.fld{off c:Nat}{fs:List eh}(h:GW p w (D (some ⟨b,off,none⟩) n c) fs)(hk:k<n) :
  ∃q:eh,w.cell? ⟨b,off+k*2,none⟩=some (B C q.part)∧w.cell? ⟨b,off+k*2+1,none⟩=some (B C q.opt)∧Hid (fs[k]?=some q)∧aC q.part∧aC q.opt:=by
 obtain⟨cs,q,hl,hc,⟨rfl,hw⟩,hx⟩:=h.cell_ hk;exact⟨q,hc 0 _ rfl,hc 1 _ rfl,hx,hw⟩
def fk(fs:List eh)(k:Nat):Prop:=k=0∨∀a b,fs[k]?=some a→fs[k-1]?=some b→a.part≠b.part
noncomputable instance (fs:List eh) (k:Nat):Decidable (fk fs k):=Classical.propDecidable _
noncomputable def dY(fs:List eh)(cs:List Int):Nat→List (List Int)
 |0=>[]
 |k+1=>if fk fs k then dY fs cs k++[[cs.getD k 0]]
   else (dY fs cs k).dropLast++[(dY fs cs k).getLastD []++[cs.getD k 0]]
theorem EH{fs:List eh}{cs:List Int}(h:fk fs k)(hx:cs[k]?=some x):dY fs cs (k+1)=dY fs cs k++[[x]]:=by rw[dY,if_pos h,yD,hx];rfl
theorem Fp{fs:List eh}{cs:List Int}{d:List (List Int)}(h:¬fk fs k)(hx:cs[k]?=some x)(hd:dY fs cs k=d++[c]):dY fs cs (k+1)=d++[c++[x]]:=by rw[dY,if_neg h,yD,hx,hd];simp
theorem kE{fs:List eh}{cs:List Int}{a:Nat}(hb:b≤cs.length)(h1:fk fs a)(hab:a<b)(h2:∀k,a<k→k<b→¬fk fs k):dY fs cs b=dY fs cs a++[(cs.take b).drop a]:=by
 obtain⟨m,rfl⟩:∃m,b=a+1+m:=⟨b-a-1,by omega⟩
 induction m with
 |zero =>
  rw[yP,EH h1 (zW (by omega))];congr 2
  rw[vY (by omega),List.drop_append_of_le_length (by simp;omega)];simp
 |succ m ih =>
  have e:=ih (by omega) (by omega) (fun k hk hk'=>h2 k hk (by omega));have:=Fp (h2 (a+1+m) (by omega) (by omega)) (zW (show a+1+m<cs.length by omega)) e;rw[show a+1+(m+1)=a+1+m+1 by omega,this];congr 2
  rw[vY (show a+1+m<cs.length by omega),List.drop_append_of_le_length (by simp;omega)]
theorem aH{P:Program}(w:World){ops:Array Oper}{rest:List Oper}{o:Oper}{a:Act}{Q:Exit→Act→World→Prop}(hgd:o.guard=none)(s x:Operand)(t:TypeId)(ho:o.op=.call { callee:=.builtin .append,args:=#[s,x],argTypes:=#[t,t] })(base:Nat)(e:TypeId)(i:TypeInfo)(z:Value)(size bytes:Nat)(ht:P.underlying t=some (.slice e))(hi:P.info? e=some i)(hz:i.zero=some z)(hsize:i.size=size)(hby:i.bytes=bytes)(hzs:z.cells.size=size)(hsz:0<size)(v:Value)(n:Nat)(xs:List Value)(hs:a.eval s=v)(hown:w.ownsRow base e size v n xs)(g:Nat)(us:Array Value)(t':TypeId)(hx:a.eval x=D (some ⟨g,0,none⟩) 1 1)(hu:w.heap[g]?=some (.cells us t' (0,0)))(hul:us.size=size)(h1:∀u∈us.toList,u.oneCell'=true)(hn:n≤1000000)(hb:bytes≤1000)(hbase:base≤w.heap.size)(h:∀v' w',w'.ownsRow base e size v' (n+1) (xs++us.toList)→w.grownBy w' v.ownBlock→wpList P ops Q rest (a.put o.dst v') w'):wpList P ops Q (o::rest) a w:=by
 refine wpList_append_own w hgd s x t ho base e i z size bytes ht hi hz hsize hby hzs hsz v n xs hs hown ⟨g,0,none⟩ 1 1 us.toList hx (by simp[hul]) (World.news_of_block hu) h1 (by unfold maxLen;omega) ?_ hbase (fun v' w' h2 h3 _=>h v' w' h2 h3);have:(n+1)*bytes≤(n+1)*1000:=wP _ hb;omega
theorem Tryz.infoF:(prog.info? 157).map (fun i=>(i.zero,i.size,i.bytes))=some (some (.agg #[B C 0,B C 0]),2,16):=by kernel_rfl
def eh.cs(q:eh):List Value:=[B C q.part,B C q.opt]
theorem GW.of_own{p base e:Nat}{w:World}{v:Value}{fs:List eh}(h:w.ownsRow base e 2 v fs.length (fs.map eh.cs).flatten)(hp:p<base)(hb:∀q∈fs,aC q.part∧aC q.opt):GW p w v fs:=by refine bg.of_own (e:=e) (fs.map eh.cs) (by simp[eh.cs]) (by decide) (by simp) h hp ?_;intro k cs x hcs hx;simp only[zL,yI]at hcs;obtain⟨q,hq,rfl⟩:=hcs;rw[hx]at hq;injection hq with hq;subst hq;exact⟨rfl,hb _ (zU hx)⟩
def jH(base:Nat)(w:World)(v:Value)(fs:List eh):Prop:=w.ownsRow base 157 2 v fs.length (fs.map eh.cs).flatten
theorem jH.nil(base:Nat)(w:World):jH base w (D none 0 0) []:=yW _ _ _ _
theorem jH.own{fs:List eh}(h:jH base w v fs):w.ownsRow base 157 2 v fs.length (fs.map eh.cs).flatten:=h
theorem jH.isF{fs:List eh}(h:jH base w v fs)(hp:p<base)(hb:∀q∈fs,aC q.part∧aC q.opt):GW p w v fs:=GW.of_own h hp hb
theorem jH.push{fs:List eh}{a b:Int}(h:w.ownsRow base 157 2 v (fs.length+1) ((fs.map eh.cs).flatten++[B C a,B C b])):jH base w v (fs++[⟨a,b⟩]):=by unfold jH;simpa[eh.cs] using h
def gz(ps:List ai)(x:Int):List eh:=match ps[x.toNat]? with
 |some q=>if q.kind=2 then (List.range q.opts.toNat).map fun k:Nat=>⟨x,(k:Int)⟩ else []
 |none=>[]
def cW(ps:List ai)(pg:List Int):List eh:=(pg.map (gz ps)).flatten
noncomputable def aA(code var:Int)(ps:List ai)(pgs:List (List Int))(page:Int):List eh :=
 if eU code var ps pgs=true∧0≤page then (match pgs[page.toNat]? with|some pg=>cW ps pg|none=>[]) else []
theorem jP{ps:List ai}(h:pg[k]?=some x):cW ps (pg.take (k+1))=cW ps (pg.take k)++gz ps x:=by unfold cW;rw[ag h];simp
theorem qg{ps:List ai}{q:ai}(h:ps[j]?=some q)(hk:q.kind≠2):gz ps (j:Int)=[]:=by unfold gz;simp[h,hk]
theorem mg{ps:List ai}{q:ai}(h:ps[j]?=some q)(hk:q.kind=2):gz ps (j:Int)=(List.range q.opts.toNat).map fun k:Nat=>⟨(j:Int),(k:Int)⟩:=by unfold gz;simp[h,hk]
theorem pG(x:Int)(j:Nat):((List.range (j+1)).map fun k:Nat=>(⟨x,(k:Int)⟩:eh))=((List.range j).map fun k:Nat=>⟨x,(k:Int)⟩)++[⟨x,(j:Int)⟩]:=by rw[yC];simp
theorem qB{ps:List ai}{q:eh}(h:q∈gz ps x):q.part=x∧∃r,ps[x.toNat]?=some r∧r.kind=2∧0≤q.opt∧q.opt<r.opts:=by
 unfold gz at h;split at h
 ·rename_i r hr
  split at h
  ·rename_i hk
   obtain⟨k,hk',rfl⟩:=zJ.1 h;refine⟨rfl,r,hr,hk,by simp,?_⟩;have:=zB.1 hk';simp only;omega
  ·cases h
 ·cases h
theorem eA{ps:List ai}{pgs:List (List Int)}(h:eU code var ps pgs=true)(hp:pgs[i]?=some pg) :
  pg.length≤24∧∀(k:Nat) (x:Int),pg[k]?=some x→∃(j:Nat) (q:ai),x=j∧ps[j]?=some q∧j<24∧j4 q=true:=by
 have hb:=jg h;obtain⟨hv,_,_,_,hok⟩:=hb;have hps:=(iV hv).2.2.2.2.2.1;have hall:=(iV hv).2.2.2.2.2.2.1;have key:∀(l:List (List Int)) (nx i:Nat) (pg:List Int),cT (ps.map cm) nx l→l[i]?=some pg→∃a,kz (ps.map cm) a pg:=by
  intro l;induction l with
  |nil=>intro nx i pg _ h;simp at h
  |cons p l ih =>
   intro nx i pg ho h;cases i with
   |zero=>simp at h;subst h;exact⟨nx,ho.1⟩
   |succ i=>exact ih _ i pg ho.2 (by simpa using h)
 obtain⟨a,ha⟩:=key pgs 0 i pg hok hp;have h1:=ha.1.1;simp at h1;refine⟨by omega,fun k x hx=>?_⟩;have hk:=(zY.1 hx).1;have hxe:=ha.1.2 k x hk hx;have hlt:a+k<ps.length:=by omega
 exact⟨a+k,ps[a+k],hxe,zW hlt,by omega,yS.1 hall _ (xX hlt)⟩
theorem tO{ps:List ai}{q:eh}(h:q∈cW ps pg):∃x∈pg,q∈gz ps x:=by unfold cW at h;obtain⟨l,hl,hq⟩:=List.mem_flatten.1 h;obtain⟨x,hx,rfl⟩:=zJ.1 hl;exact⟨x,hx,hq⟩
theorem dE{ps:List ai}{pgs:List (List Int)}(h:eU code var ps pgs=true)(hp:pgs[j]?=some pg):aA code var ps pgs (j:Int)=cW ps pg:=by unfold aA;rw[if_pos ⟨h,by omega⟩];simp[hp]
theorem gK{ps:List ai}{pgs:List (List Int)}{page:Int}(h:¬(eU code var ps pgs=true∧0≤page∧page<pgs.length)):aA code var ps pgs page=[]:=by
 unfold aA;split
 ·rename_i hc
  have hnl:¬page<pgs.length:=fun hlt=>h ⟨hc.1,hc.2,hlt⟩;rw[yH (by omega)]
 ·rfl
theorem ot{ps:List ai}{pgs:List (List Int)}(h:eU code var ps pgs=true)(hp:pgs[i]?=some pg):∀q∈cW ps pg,aC q.part∧aC q.opt:=by intro q hq;obtain⟨x,hx,hq⟩:=tO hq;obtain⟨k,hk⟩:=yZ hx;obtain⟨j,r,rfl,hj,hj24,hr⟩:=(eA h hp).2 k x hk;obtain⟨h1,r',hr',hk2,h2,h3⟩:=qB hq;simp at hr';rw[hj]at hr';injection hr' with hr';subst hr';have:=je hr;unfold aC;omega
end Go.Proofs.YtjgfgdcaocbfhaaGreat

