import Derived.Test.YtpaidaphacoblaaGreatDoorK0
set_option linter.all false
set_option maxRecDepth 100000
set_option maxHeartbeats 0
namespace Go.Proofs.YtpaidaphacoblaaGreatDoor
open Go.Value renaming int→B,slice→D
open Go.IntKind renaming i64→C
open Go.RowKit _root_.Go.Proofs.Tryz
variable {w:World} {k n p:Nat} {code s var:Int}
structure av where
 kind:Int
 max:Int
 topic:Int
 obj:Int
 opts:Int
 key:Int
def av.cells(q:av):List Value:=[B C q.kind,B C q.max,B C q.topic,B C q.obj,B C q.opts,B C q.key]
def av.wf(q:av):Prop:=aU q.kind/\aU q.max/\aU q.topic/\aU q.obj/\aU q.opts/\aU q.key
def bC:World->List Value->av->Prop:=fun _ cs q=>cs=q.cells/\q.wf
theorem bC.stab(p:Nat):lV p bC:=fun _ _ _ _ h _=>h
def lm(q:av):Bool:=decide (1<=q.max/\q.max<=40/\0<=q.topic/\q.topic<16/\0<=q.obj/\q.obj<6/\((q.kind=1/\q.opts=0/\q.key=0)\/(q.kind=2/\2<=q.opts/\q.opts<=5/\0<=q.key/\q.key<q.opts)))
theorem k8{q:av}(h:lm q=true):1<=q.max/\q.max<=40/\0<=q.topic/\q.topic<16/\0<=q.obj/\q.obj<6/\((q.kind=1/\q.opts=0/\q.key=0)\/(q.kind=2/\2<=q.opts/\q.opts<=5/\0<=q.key/\q.key<q.opts)):=by simpa[lm] using h
def db(q:av):Int:=if lm q=false then 0 else if q.kind=2 then 2+q.opts else min (2+q.max) 30
theorem qp(q:av):0<=db q/\db q<=30:=by
 unfold db;cases h:lm q with
 |false=>simp
 |true =>
  have:=k8 h;simp only[Bool.true_eq_false,if_false];split<;>omega
theorem gw(q:av)(w:World) :
  Calls prog 134 #[.agg #[B C q.kind,B C q.max,B C q.topic,B C q.obj,B C q.opts,B C q.key]] w fun e w'=>e=.returned (.bool (lm q))/\ab w w':=by
 obtain⟨k,m,t,o,n,y⟩:=q;go_enter func134,ntmps134
 go_wp2
 all_goals (go_ret;exact⟨aa (by (try simp only[beq_iff_eq,beq_eq_false_iff_ne]at *);rw[yE];simp[lm];omega),(zE _).alloc _⟩)
theorem fG(q:av)(w:World) :
  Calls prog 91 #[.agg #[B C q.kind,B C q.max,B C q.topic,B C q.obj,B C q.opts,B C q.key]] w fun e w'=>e=.returned (.bool (lm q))/\ab w w':=by
 obtain⟨k,m,t,o,n,y⟩:=q;go_enter func91,ntmps91
 go_wp2
 all_goals (go_ret;exact⟨aa (by (try simp only[beq_iff_eq,beq_eq_false_iff_ne]at *);rw[yE];simp[lm];omega),(zE _).alloc _⟩)
theorem K3{w1:World}{o:Obj}{a b c d e f:Value}{t:TypeId}(ho:o=.cells #[a,b,c,d,e,f] t)(h:ab (w.alloc o) w1) :
  w1.cell? ⟨w.heap.size,0,none⟩=some a/\w1.cell? ⟨w.heap.size,1,none⟩=some b/\w1.cell? ⟨w.heap.size,2,none⟩=some c/\w1.cell? ⟨w.heap.size,3,none⟩=some d/\w1.cell? ⟨w.heap.size,4,none⟩=some e/\w1.cell? ⟨w.heap.size,5,none⟩=some f:=by
 subst ho;have hb:=h.blk (heap_alloc_new w _);refine⟨?_,?_,?_,?_,?_,?_⟩<;>(rw[cell_of_row w1 w.heap.size _ _ t (0,0) hb];rfl)
theorem Gk(q:av)(w:World) :
  Calls prog 136 #[.agg #[B C q.kind,B C q.max,B C q.topic,B C q.obj,B C q.opts,B C q.key]] w fun e w'=>e=.returned (B C (db q))/\ab w w':=by
 cases hv:lm q with
 |false =>
  have HV:=zZ hv;clear hv;go_enter func136,ntmps136
  go_wp2_with fail;refine (gw q _).mono ?_;rintro e w1 ⟨rfl,hx1⟩;rw[HV.out];go_wp2_with fail;go_ret
  exact⟨ag (by simp[db,HV.out]),ab.trans ((zE _).alloc _) hx1⟩
 |true =>
  have HV:=zZ hv;have hb:=k8 hv;clear hv;have HN:Hid (db q=if q.kind=2 then 2+q.opts else min (2+q.max) 30):=by show db q=_;unfold db;rw[if_neg (by simp[HV.out])]
  have hk:q.kind=1\/q.kind=2:=by omega
  obtain⟨k,m,t,o,n,y⟩:=q;simp only at hb hk;obtain⟨h1,h2,h3,h4,h5,h6,h7⟩:=hb;rcases hk with rfl|rfl;all_goals
   have HE:=zZ h7;clear h7;have hn5:n<=5:=by have:=HE.out;omega
   have hn0:0<=n:=by have:=HE.out;omega
   go_enter func136,ntmps136
   go_wp2_with fail;refine (gw ⟨_,m,t,o,n,y⟩ _).mono ?_;rintro e w1 ⟨rfl,hx1⟩;rw[HV.out];obtain⟨c0,c1,c2,c3,c4,c5⟩:=K3 rfl hx1;go_wp2_with fail;all_goals (go_ret;exact⟨ag (by rw[HN.out];simp;try omega),ab.trans ((zE _).alloc _) hx1⟩)
theorem sA(q:av)(w:World) :
  Calls prog 55 #[.agg #[B C q.kind,B C q.max,B C q.topic,B C q.obj,B C q.opts,B C q.key]] w fun e w'=>e=.returned (B C (db q))/\ab w w':=by
 cases hv:lm q with
 |false =>
  have HV:=zZ hv;clear hv;go_enter func55,ntmps55
  go_wp2_with fail;refine (fG q _).mono ?_;rintro e w1 ⟨rfl,hx1⟩;rw[HV.out];go_wp2_with fail;go_ret
  exact⟨ag (by simp[db,HV.out]),ab.trans ((zE _).alloc _) hx1⟩
 |true =>
  have HV:=zZ hv;have hb:=k8 hv;clear hv;have HN:Hid (db q=if q.kind=2 then 2+q.opts else min (2+q.max) 30):=by show db q=_;unfold db;rw[if_neg (by simp[HV.out])]
  have hk:q.kind=1\/q.kind=2:=by omega
  obtain⟨k,m,t,o,n,y⟩:=q;simp only at hb hk;obtain⟨h1,h2,h3,h4,h5,h6,h7⟩:=hb;rcases hk with rfl|rfl;all_goals
   have HE:=zZ h7;clear h7;have hn5:n<=5:=by have:=HE.out;omega
   have hn0:0<=n:=by have:=HE.out;omega
   go_enter func55,ntmps55
   go_wp2_with fail;refine (fG ⟨_,m,t,o,n,y⟩ _).mono ?_;rintro e w1 ⟨rfl,hx1⟩;rw[HV.out];obtain⟨c0,c1,c2,c3,c4,c5⟩:=K3 rfl hx1;go_wp2_with fail;all_goals (go_ret;exact⟨ag (by rw[HN.out];simp;try omega),ab.trans ((zE _).alloc _) hx1⟩)
abbrev oa (p:Nat):World->Value->List av->Prop:=bj p 6 bC
theorem bj.part{b off c:Nat}{ps:List av}(h:oa p w (D (some ⟨b,off,none⟩) n c) ps)(hk:k<n) :
  ∃q:av,w.cell? ⟨b,off+k*6,none⟩=some (B C q.kind)/\w.cell? ⟨b,off+k*6+1,none⟩=some (B C q.max)/\w.cell? ⟨b,off+k*6+2,none⟩=some (B C q.topic) /\
   w.cell? ⟨b,off+k*6+3,none⟩=some (B C q.obj)/\w.cell? ⟨b,off+k*6+4,none⟩=some (B C q.opts)/\w.cell? ⟨b,off+k*6+5,none⟩=some (B C q.key)/\Hid q.wf/\Hid (ps[k]?=some q):=by
 obtain⟨cs,q,hl,hc,⟨rfl,hw⟩,hx⟩:=h.cell_ hk;exact⟨q,hc 0 _ rfl,hc 1 _ rfl,hc 2 _ rfl,hc 3 _ rfl,hc 4 _ rfl,hc 5 _ rfl,hw,hx⟩
def tN(ps:List av)(k:Nat):Int:=((ps.take k).map av.max).sum
def sm(ps:List av):Int:=(ps.map av.max).sum
theorem sQ{ps:List av}{q:av}(hs:s=tN ps k)(h:ps[k]?=some q):s+q.max=tN ps (k+1):=by subst hs;unfold tN;rw[ax h];simp
theorem JM{ps:List av}(hl:ps.length=n)(hs:s=tN ps n):s=sm ps:=by subst hs;unfold tN sm;rw[bh hl]
theorem ve(v:Value)(ps:List av)(w:World)(h:oa p w v ps)(hb:∀q∈ps,0<=q.max/\q.max<=40)(hl24:ps.length<=24) :
  Calls prog 135 #[v] w fun e w'=>e=.returned (B C (sm ps))/\ab w w':=by
 obtain⟨A,n,c,rfl,hnc,hc,hnn,HL⟩:=h.open_;have hn24:n<=24:=by have:=HL.out;omega
 have H:=zZ h;have HB:=zZ hb;clear h hb;go_enter func135,ntmps135
 go_wp2_with fail;go_loopw [3,8] (fun s i wr=>∃(k:Nat) (t:Int),k<=n/\0<=t/\t<=40*k/\i=B C k/\s=B C t/\Hid (t=tN ps k)/\Hid (ab w wr)) (fun _ i _=>n-(intOf i).toNat)
 case atStart=>exact⟨0,0,xL _,by omega,by omega,rfl,rfl,by simp[Hid,tN],zE _⟩
 case round =>
  obtain⟨k,t,hk,ht0,ht1,rfl,rfl,HT,HE⟩:=hrel;by_cases hlt:k<n
  ·obtain⟨b,off,cs0,q0,rfl,_⟩:=H.out.at_ hlt;obtain⟨q,c0,c1,c2,c3,c4,c5,hw,HX⟩:=(H.out.ext (bC.stab p) HE.out).part hlt;have hbq:=HB.out q (zW HX.out);go_wp2_with fail;go_roundw
   case rel=>exact⟨k+1,t+q.max,by omega,by omega,by omega,by go_num,rfl,sQ HT.out HX.out,HE.out.alloc _⟩
   case measure=>simp[intOf];omega
  ·obtain rfl:k=n:=by omega
   go_wp2_with fail;go_ret
   exact⟨ag (JM HL.out HT.out),HE.out⟩
def fD(code var:Int)(ps:List av):Bool:=decide (0<=code/\code<=31/\0<=var/\var<4/\1<=ps.length/\ps.length<=24)&&(ps.all lm&&decide (sm ps<=200))
theorem AH{ps:List av}(hl:ps.length=n)(h:¬(0<=code/\code<=31/\0<=var/\var<4/\1<=n/\n<=24)):false=fD code var ps:=by unfold fD;rw[hl];simp[h]
theorem BP{ps:List av}{q:av}(h:ps[k]?=some q)(hq:lm q=false):false=fD code var ps:=by
 have:ps.all lm=false:=by rw[wT];exact⟨q,zW h,by simp[hq]⟩
 unfold fD;simp[this]
theorem DJ{ps:List av}(hl:ps.length=n)(h:0<=code/\code<=31/\0<=var/\var<4/\1<=n/\n<=24)(ha:ps.all lm=true):decide (sm ps<=200)=fD code var ps:=by unfold fD;rw[hl,ha,decide_eq_true h];simp
theorem mD{ps:List av}(h:fD code var ps=true):0<=code/\code<=31/\0<=var/\var<4/\1<=ps.length/\ps.length<=24/\ps.all lm=true/\sm ps<=200:=by unfold fD at h;simp only[yT,decide_eq_true_eq]at h;obtain⟨⟨a,b,c,d,e,f⟩,g,i⟩:=h;exact⟨a,b,c,d,e,f,g,i⟩
theorem su{f:av->Bool}{l:List av}{x:av}(h:l[k]?=some x):(l.take (k+1)).all f=((l.take k).all f&&f x):=by rw[ax h];simp
theorem Lc{w1:World}{o:Obj}{a b c:Value}{t:TypeId}(ho:o=.cells #[a,b,c] t)(h:ab (w.alloc o) w1) :
  w1.cell? ⟨w.heap.size,0,none⟩=some a/\w1.cell? ⟨w.heap.size,1,none⟩=some b/\w1.cell? ⟨w.heap.size,2,none⟩=some c:=by
 subst ho;exact Hd (h.blk (heap_alloc_new w _))
theorem kP(code var:Int)(v:Value)(ps:List av)(w:World)(h:oa p w v ps) :
  Calls prog 95 #[.agg #[B C code,B C var,v]] w fun e w'=>e=.returned (.bool (fD code var ps))/\ab w w':=by
 obtain⟨A,n,c,rfl,hnc,hc,hnn,HL⟩:=h.open_;have H:=zZ h;clear h;by_cases hh:0<=code/\code<=31/\0<=var/\var<4/\1<=n/\n<=24
 ·have HH:=zZ hh;obtain⟨h1,h2,h3,h4,h5,h6⟩:=hh;have hE0:ab w (w.alloc (.cells #[B C code,B C var,D A n c] 64)):=(zE _).alloc _;have HE0:=zZ hE0;clear hE0;go_enter func95,ntmps95
  go_wp2_with fail;go_loopw [36] (fun i wr=>∃(k:Nat),k<=n/\i=B C k/\Hid ((ps.take k).all lm=true)/\Hid (ab (w.alloc (.cells #[B C code,B C var,D A n c] 64)) wr)) (fun i _=>n-(intOf i).toNat)
  case atStart=>exact⟨0,xL _,rfl,by simp[Hid],zE _⟩
  case round =>
   obtain⟨k,hk,rfl,HA,HE⟩:=hrel;by_cases hlt:k<n
   ·obtain⟨b,off,cs0,q0,rfl,_⟩:=H.out.at_ hlt;obtain⟨q,c0,c1,c2,c3,c4,c5,hw,HX⟩:=((H.out.ext (bC.stab p) HE0.out).ext (bC.stab p) HE.out).part hlt;cases hv:lm q with
    |false =>
     have HV:=zZ hv;clear hv;go_wp2_with fail;refine (gw q _).mono ?_;rintro e w1 ⟨rfl,hx1⟩;rw[HV.out];go_wp2_with fail;go_ret
     exact⟨aa (BP HX.out HV.out),(HE0.out.trans (HE.out.alloc _)).trans hx1⟩
    |true =>
     have HV:=zZ hv;clear hv;go_wp2_with fail;refine (gw q _).mono ?_;rintro e w1 ⟨rfl,hx1⟩;rw[HV.out];go_wp2_with fail;go_roundw
     case rel=>exact⟨k+1,by omega,by go_num,by show (ps.take (k+1)).all lm=true;rw[su HX.out,HA.out,HV.out];rfl,(HE.out.alloc _).trans hx1⟩
     case measure=>simp[intOf];omega
   ·obtain rfl:k=n:=by omega
    have hall:ps.all lm=true:=by have:=HA.out;rw[bh HL.out]at this;exact this
    have HALL:=zZ hall;obtain⟨c0,c1,c2⟩:=Lc rfl HE.out;clear hall;go_wp2_with fail;refine (ve _ ps _ ((H.out.ext (bC.stab p) HE0.out).ext (bC.stab p) HE.out) (fun q hq=>by have:=k8 (xS.1 HALL.out q hq);omega) (by have:=HL.out;omega)).mono ?_;rintro e w1 ⟨rfl,hx1⟩;go_wp2_with fail;go_ret
    exact⟨aa (DJ HL.out HH.out HALL.out),(HE0.out.trans HE.out).trans hx1⟩
 ·have HH:=zZ (AH HL.out hh);by_cases h1:0<=code/\code<=31/\0<=var/\var<4
  ·have h5:n<1\/24<n:=by omega
   clear hh;go_enter func95,ntmps95
   go_wp2_with fail;all_goals (go_ret;exact⟨aa HH.out,(zE _).alloc _⟩)
  ·clear hh;have h1':code<0\/31<code\/var<0\/4<=var:=by omega
   clear h1;go_enter func95,ntmps95
   go_wp2_with fail;all_goals (go_ret;exact⟨aa HH.out,(zE _).alloc _⟩)
theorem fc(code var:Int)(v:Value)(ps:List av)(w:World)(h:oa p w v ps) :
  Calls prog 54 #[.agg #[B C code,B C var,v]] w fun e w'=>e=.returned (.bool (fD code var ps))/\ab w w':=by
 obtain⟨A,n,c,rfl,hnc,hc,hnn,HL⟩:=h.open_;have H:=zZ h;clear h;by_cases hh:0<=code/\code<=31/\0<=var/\var<4/\1<=n/\n<=24
 ·have HH:=zZ hh;obtain⟨h1,h2,h3,h4,h5,h6⟩:=hh;have hE0:ab w (w.alloc (.cells #[B C code,B C var,D A n c] 64)):=(zE _).alloc _;have HE0:=zZ hE0;clear hE0;go_enter func54,ntmps54
  go_wp2_with fail;go_loopw [3,4] (fun s i wr=>∃(k:Nat) (t:Int),k<=n/\0<=t/\t<=40*k/\i=B C k/\s=B C t/\Hid (t=tN ps k)/\Hid ((ps.take k).all lm=true)/\Hid (ab (w.alloc (.cells #[B C code,B C var,D A n c] 64)) wr)) (fun _ i _=>n-(intOf i).toNat)
  case atStart=>exact⟨0,0,xL _,by omega,by omega,rfl,rfl,by simp[Hid,tN],by simp[Hid],zE _⟩
  case round =>
   obtain⟨k,t,hk,ht0,ht1,rfl,rfl,HT,HA,HE⟩:=hrel;obtain⟨b0,b1,b2⟩:=Lc rfl HE.out;by_cases hlt:k<n
   ·obtain⟨b,off,cs0,q0,rfl,_⟩:=H.out.at_ hlt;have HI:=zZ ((H.out.ext (bC.stab p) HE0.out).ext (bC.stab p) HE.out);obtain⟨q,c0,c1,c2,c3,c4,c5,hw,HX⟩:=HI.out.part hlt;cases hv:lm q with
    |false =>
     have HV:=zZ hv;clear hv;go_wp2_with fail;refine (fG q _).mono ?_;rintro e w1 ⟨rfl,hx1⟩;rw[HV.out];go_wp2_with fail;go_ret
     exact⟨aa (BP HX.out HV.out),(HE0.out.trans HE.out).trans hx1⟩
    |true =>
     have HV:=zZ hv;have hbq:=k8 hv;clear hv;go_wp2_with fail;refine (fG q _).mono ?_;rintro e w1 ⟨rfl,hx1⟩;rw[HV.out];have d2:=hx1.cell b2;have e1:=hx1.cell c1;clear b0 b1 b2 c0 c1 c2 c3 c4 c5;go_wp2_with fail;go_roundw
     case rel=>exact⟨k+1,t+q.max,by omega,by omega,by omega,by go_num,rfl,sQ HT.out HX.out,by show (ps.take (k+1)).all lm=true;rw[su HX.out,HA.out,HV.out];rfl,HE.out.trans hx1⟩
     case measure=>simp[intOf];omega
   ·obtain rfl:k=n:=by omega
    have HALL:Hid (ps.all lm=true):=by have:=HA.out;rw[bh HL.out]at this;exact this
    go_wp2_with fail;go_ret
    exact⟨aa (by rw[<-DJ HL.out HH.out HALL.out,JM HL.out HT.out]),HE0.out.trans HE.out⟩
 ·have HH:=zZ (AH HL.out hh);by_cases h1:0<=code/\code<=31/\0<=var/\var<4
  ·have h5:n<1\/24<n:=by omega
   clear hh;go_enter func54,ntmps54
   go_wp2_with fail;all_goals (go_ret;exact⟨aa HH.out,(zE _).alloc _⟩)
  ·clear hh;have h1':code<0\/31<code\/var<0\/4<=var:=by omega
   clear h1;go_enter func54,ntmps54
   go_wp2_with fail;all_goals (go_ret;exact⟨aa HH.out,(zE _).alloc _⟩)
section
variable {base eS eI H:Nat} {w w':World} {v v':Value} {ls:List (List Int)}
theorem rR{e size:Nat}{us us':List Value}(a:w.ownsRow base e size v n us)(b:w.ownsRow base e size v n us'):us=us':=by
 rcases a.2 with ⟨rfl,h0⟩|⟨g,cap,cur,rfl,_,hh,_,_,_,ht⟩
 ·have h1:=a.1;have h2:=b.1;rw[h0]at h1 h2
  have e1:us=[]:=xZ (by simpa using h1);have e2:us'=[]:=xZ (by simpa using h2);rw[e1,e2]
 ·rcases b.2 with ⟨e,_⟩|⟨g',cap',cur',e,_,hh',_,_,_,ht'⟩
  ·cases e
  ·injection e with e1 e2 e3;injection e1 with e1;injection e1 with e1;subst e1;rw[hh]at hh';injection hh' with hh';injection hh' with hc;subst hc;exact ht.symm.trans ht'
end
theorem eU.step{base eS eI g j cap:Nat}{d:List (List Int)}{c:List Int}(h:eU p base eS eI w (D (some ⟨g,0,none⟩) (j+1) cap) (d++[c]))(hd:d.length=j)(hne:eS≠eI) :
  ∃(A:Option Addr) (n cu H:Nat),w.cell? ⟨g,j,none⟩=some (D A n cu)/\c.length=n/\base<=g/\base<=H/\H<=w.heap.size/\w.ownsRow H eI 1 (D A n cu) n (c.map (Value.int .i64)) /\
   ∀(w1 w2:World) (u':Value) (x:Int),ab w w1->w1.grownBy w2 (Value.slice A n cu).ownBlock->w2.ownsRow H eI 1 u' (n+1) (c.map (Value.int .i64)++[B C x]) ->
    w2.cell? ⟨g,j,none⟩=some (D A n cu)/\w2.frozen? ⟨g,j,none⟩=false/\eU p base eS eI (w2.setCell ⟨g,j,none⟩ u') (D (some ⟨g,0,none⟩) (j+1) cap) (d++[c++[x]]):=by
 have hls:(d++[c]).length=j+1:=by simp[hd]
 have hl1:(d++[c]).length-1=j:=by omega
 obtain⟨us,H,hus,hown,hbH,hH,hold,hlast⟩:=h.parts;have hcj:(d++[c])[(d++[c]).length-1]?=some c:=by rw[hl1,yL (by omega)];simp[hd]
 have hj:j<us.length:=by omega
 have huj:us[(d++[c]).length-1]?=some us[j]:=by rw[hl1];exact zV hj
 have ho:=hlast _ c huj hcj;obtain⟨A,n,cu,hv,hn⟩:∃A n cu,us[j]=D A n cu/\c.length=n:=by
  rcases ho.2 with ⟨e,h0⟩|⟨g',cap',cur,e,_⟩
  ·exact⟨none,0,0,e,h0⟩
  ·exact⟨_,_,cap',e,rfl⟩
 rw[hv]at ho huj;rw[hn]at ho;rw[hls]at hown;have hcell:w.cell? ⟨g,j,none⟩=some (D A n cu):=by rw[hown.cellAt j (by omega),zV hj,hv]
 have hbg:base<=g:=(hown.lt g rfl).1;refine⟨A,n,cu,H,hcell,hn,hbg,hbH,hH,ho,fun w1 w2 u' x hs hg h'=>?_⟩;have o1:=ao hown hs;have o2:w2.ownsRow base eS 1 (D (some ⟨g,0,none⟩) (j+1) cap) (j+1) us:=aJ o1 hg fun k hk=>cA o1 (ao ho hs) hne k hk;refine⟨by rw[o2.cellAt j (by omega),zV hj,hv],o2.frozenAt j,?_⟩;subst hn;have hp:=eU.push (p:=p) (x:=x) (u':=u') (w1:=w1) (w':=w2) (ls:=d++[c]) (us:=us) (u:=D A c.length cu) (l:=c) (H:=H) (g:=g) (cap:=cap) (w:=w) (base:=base) (eS:=eS) (eI:=eI)
  (by rw[hls];exact h) hne (by simp) hs huj hcj (by rw[hls];exact hown) hg (by simpa using h') ho hbH hH hold
 rw[hl1,hls]at hp;have e:(d++[c]).set j (c++[x])=d++[c++[x]]:=by rw[vO _ _ (by omega)];simp[hd]
 rw[e]at hp;exact hp
theorem eU.two(p:Nat)(w:World)(base eS eI:Nat)(hb:base<=w.heap.size):eU p base eS eI (w.alloc (.cells #[D none 0 0,D none 0 0] eS)) (D (some ⟨w.heap.size,0,none⟩) 2 2) [[],[]]:=by
 refine⟨[D none 0 0,D none 0 0],w.heap.size+1,rfl,?_,by omega,by simp,fun j u l hu hl hj=>?_,fun u l hu hl=>?_⟩
 ·exact uT w #[D none 0 0,D none 0 0] 2 hb (by unfold maxLen;omega) rfl
 ·simp at hj;obtain rfl:j=0:=by omega
  simp at hu hl;subst hu;subst hl;exact⟨yZ _ _ _ _,fun k hk=>by simp[Value.ownBlock]at hk⟩
 ·simp at hu hl;subst hu;subst hl;exact yZ _ _ _ _
theorem J3{l:List Int}{x:Int}(h:l[k]?=some x):l.getD k 0=x:=by simp[List.getD,h]
def gs(ns:List Int):Nat->List (List Int)×List Int×Int
 |0=>([[]],[],0)
 |k+1=>if 30<(gs ns k).2.2+ns.getD k 0 then ((gs ns k).1++[(gs ns k).2.1],[(k:Int)],ns.getD k 0) else ((gs ns k).1,(gs ns k).2.1++[(k:Int)],(gs ns k).2.2+ns.getD k 0)
def iW(ns:List Int):List (List Int):=(gs ns ns.length).1++[(gs ns ns.length).2.1]
def Ev(ls:List (List Int)):List (List Int):=ls++List.replicate ((4-ls.length%4)%4) []
def ai(ps:List av):List (List Int):=Ev (iW (ps.map db))
section
variable {ns:List Int} {k:Nat} {d:List (List Int)} {c:List Int} {s x:Int}
theorem CV(h:gs ns k=(d,c,s))(hx:ns[k]?=some x)(hf:s+x<=30):gs ns (k+1)=(d,c++[(k:Int)],s+x):=by unfold gs;rw[h];simp only;rw[J3 hx,if_neg (by omega)]
theorem CL(h:gs ns k=(d,c,s))(hx:ns[k]?=some x)(hf:30<s+x):gs ns (k+1)=(d++[c],[(k:Int)],x):=by unfold gs;rw[h];simp only;rw[J3 hx,if_pos hf]
end
theorem Kb(ns:List Int)(hn:∀x∈ns,0<=x/\x<=30):∀k,k<=ns.length->0<=(gs ns k).2.2/\(gs ns k).2.2<=30/\(gs ns k).1.length<=k+1/\(gs ns k).2.1.length<=k /\
  (∀l∈(gs ns k).1,∀y∈l,0<=y/\y<k)/\(∀y∈(gs ns k).2.1,0<=y/\y<k)/\(∀l∈(gs ns k).1,l.length<=k)/\((gs ns k).2.1=[]->(gs ns k).2.2=0/\k=0):=by
 intro k;induction k with
 |zero=>intro _;simp[gs]
 |succ k ih =>
  intro hk;obtain⟨h1,h2,h3,h4,h5,h6,h7,h8⟩:=ih (by omega);have hkl:k<ns.length:=by omega
  have hx:ns[k]?=some ns[k]:=zV hkl;have hb:=hn _ (xC hkl);obtain⟨d,c,s,e⟩:∃d c s,gs ns k=(d,c,s):=⟨_,_,_,rfl⟩
  rw[e]at h1 h2 h3 h4 h5 h6 h7 h8;simp only at h1 h2 h3 h4 h5 h6 h7 h8;by_cases hf:s+ns[k]<=30
  ·rw[CV e hx hf];simp only;refine⟨by omega,by omega,by omega,by simp;omega,?_,?_,fun l hl=>by have:=h7 l hl;omega,fun h=>by simp at h⟩
   ·intro l hl y hy;have:=h5 l hl y hy;omega
   ·intro y hy;rcases zM.1 hy with hy|hy
    ·have:=h6 y hy;omega
    ·simp at hy;omega
  ·rw[CL e hx (by omega)];simp only;refine⟨by omega,by omega,by simp;omega,by simp,?_,?_,?_,fun h=>by simp at h⟩
   ·intro l hl y hy;rcases zM.1 hl with hl|hl
    ·have:=h5 l hl y hy;omega
    ·simp at hl;subst hl;have:=h6 y hy;omega
   ·intro y hy;simp at hy;omega
   ·intro l hl;rcases zM.1 hl with hl|hl
    ·have:=h7 l hl;omega
    ·simp at hl;subst hl;omega
theorem Ij{ls:List (List Int)}(h:ls.length%4≠0):Ev (ls++[[]])=Ev ls:=by
 unfold Ev;have e:(4-ls.length%4)%4=(4-(ls++[[]]).length%4)%4+1:=by simp;omega
 rw[e,xY,vD];rfl
theorem Hn{ls:List (List Int)}(h:ls.length%4=0):Ev ls=ls:=by unfold Ev;simp[h]
theorem rY(ps:List av):∀x∈ps.map db,0<=x/\x<=30:=by intro x hx;obtain⟨q,_,rfl⟩:=zF.1 hx;exact qp q
theorem qW(ps:List av):(iW (ps.map db)).length<=ps.length+2/\(∀l∈iW (ps.map db),l.length<=ps.length/\∀y∈l,0<=y/\y<ps.length):=by
 have h:=Kb (ps.map db) (rY ps) (ps.map db).length (zX _);obtain⟨_,_,h3,h4,h5,h6,h7,_⟩:=h;unfold iW;simp only[zJ]at *;refine⟨by simp;omega,fun l hl=>?_⟩;rcases zM.1 hl with hl|hl
 ·exact⟨h7 l hl,h5 l hl⟩
 ·simp at hl;subst hl;exact⟨h4,h6⟩
theorem m7(ps:List av):(ai ps).length<=ps.length+5/\(∀l∈ai ps,l.length<=ps.length/\∀y∈l,0<=y/\y<ps.length):=by
 obtain⟨h1,h2⟩:=qW ps;unfold ai Ev;refine⟨by simp;omega,fun l hl=>?_⟩;rcases zM.1 hl with hl|hl
 ·exact h2 l hl
 ·rw[List.mem_replicate]at hl;rw[hl.2];simp
theorem nY{ps:List av}{q:av}(h:ps[k]?=some q):(ps.map db)[k]?=some (db q):=by simp[h]
theorem Co{ps:List av}{d:List (List Int)}{c:List Int}(hl:ps.length=n)(h:gs (ps.map db) n=(d,c,s)):d++[c]=iW (ps.map db):=by unfold iW;rw[zJ,hl,h]
def nA(ns:List Int)(nx k:Nat):Int:=((ns.drop nx).take k).sum
def nf(ns:List Int)(nx:Nat)(pg:List Int)(k:Nat):Prop:=nx+k<=ns.length/\∀i y,i<k->pg[i]?=some y->y=((nx+i:Nat):Int)
def oW(ns:List Int)(nx:Nat)(pg:List Int):Prop:=nf ns nx pg pg.length/\nA ns nx pg.length<=30
def eh(ns:List Int):Nat->List (List Int)->Prop
 |nx,[]=>nx=ns.length
 |nx,pg::rest=>oW ns nx pg/\eh ns (nx+pg.length) rest
def Fd(code var:Int)(ps:List av)(pgs:List (List Int)):Prop :=
 fD code var ps=true/\pgs.length<=12/\pgs.length%4=0/\(∀l,pgs[0]?=some l->l=[])/\eh (ps.map db) 0 pgs
open Classical in
noncomputable def jH(code var:Int)(ps:List av)(pgs:List (List Int)):Bool:=decide (Fd code var ps pgs)
theorem qh{ps:List av}{pgs:List (List Int)}(h:Fd code var ps pgs):jH code var ps pgs=true:=by unfold jH;simp[h]
theorem dE{ps:List av}{pgs:List (List Int)}(h:¬Fd code var ps pgs):jH code var ps pgs=false:=by unfold jH;simp[h]
theorem J0{ps:List av}{pgs:List (List Int)}(h:jH code var ps pgs=true):Fd code var ps pgs:=by unfold jH at h;simpa using h
section
variable {ns:List Int} {nx k:Nat} {pg:List Int} {x y:Int}
theorem oN(ns:List Int)(nx:Nat):nA ns nx 0=0:=by simp[nA]
theorem lx(h:ns[nx+k]?=some x):nA ns nx (k+1)=nA ns nx k+x:=by
 unfold nA;have h':(ns.drop nx)[k]?=some x:=by rw[vR];exact h
 rw[ax h'];simp
theorem rN(h:nx<=ns.length)(pg:List Int):nf ns nx pg 0:=⟨by omega,fun i y hi=>by omega⟩
theorem qK(h:nf ns nx pg k)(hy:pg[k]?=some y)(he:y=((nx+k:Nat):Int))(hlt:nx+k<ns.length):nf ns nx pg (k+1):=by
 refine⟨by omega,fun i z hi hz=>?_⟩;by_cases e:i=k
 ·subst e;rw[hy]at hz;rw[<-xF hz];exact he
 ·exact h.2 i z (by omega) hz
theorem D7(hy:pg[k]?=some y)(h:y≠((nx+k:Nat):Int)\/ns.length<=nx+k):¬oW ns nx pg:=by
 intro hc;have hk:=(zY.1 hy).1;rcases h with h|h
 ·exact h (hc.1.2 k y hk hy)
 ·have:=hc.1.1;omega
end
def kZ(code var:Int)(ps:List av)(pgs:List (List Int))(i nx:Nat):Prop:=(eh (ps.map db) 0 pgs↔eh (ps.map db) nx (pgs.drop i))
theorem kZ.start(code var:Int)(ps:List av)(pgs:List (List Int)):kZ code var ps pgs 0 0:=by unfold kZ;simp
section
variable {code var:Int} {ps:List av} {pgs:List (List Int)} {i nx:Nat} {pg:List Int}
theorem Do{α:Type}{l:List α}{i:Nat}{x:α}(h:l[i]?=some x):l.drop i=x::l.drop (i+1):=by obtain⟨hi,rfl⟩:=zY.1 h;exact vZ hi
theorem kZ.next(h:kZ code var ps pgs i nx)(hp:pgs[i]?=some pg)(hk:oW (ps.map db) nx pg):kZ code var ps pgs (i+1) (nx+pg.length):=by
 unfold kZ at *
 rw[h,Do hp];exact⟨fun a=>a.2,fun a=>⟨hk,a⟩⟩
theorem kZ.bad(h:kZ code var ps pgs i nx)(hp:pgs[i]?=some pg)(hk:¬oW (ps.map db) nx pg):¬Fd code var ps pgs:=by rintro⟨_,_,_,_,ho⟩;unfold kZ at h;rw[h,Do hp]at ho;exact hk ho.1
theorem kZ.fin(h:kZ code var ps pgs i nx)(hi:pgs.length=i):eh (ps.map db) 0 pgs↔nx=ps.length:=by unfold kZ at h;rw[h,uF (by omega)];simp[eh]
end
end Go.Proofs.YtpaidaphacoblaaGreatDoor

