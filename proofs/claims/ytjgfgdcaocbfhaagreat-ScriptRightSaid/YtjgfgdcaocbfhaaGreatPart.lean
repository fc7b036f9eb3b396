import Derived.Test.YtjgfgdcaocbfhaaGreatH0
set_option linter.all false
set_option maxRecDepth 100000
set_option maxHeartbeats 0
namespace Go.Proofs.YtjgfgdcaocbfhaaGreat
open Go.Value renaming int→A
open Go.IntKind renaming i64→B
open Go.RowKit _root_.Go.Proofs.Tryz
structure ai where
 kind:Int
 max:Int
 topic:Int
 obj:Int
 opts:Int
 key:Int
def ai.cells(q:ai):List Value:=[A B q.kind,A B q.max,A B q.topic,A B q.obj,A B q.opts,A B q.key]
def ai.wf(q:ai):Prop:=aC q.kind∧aC q.max∧aC q.topic∧aC q.obj∧aC q.opts∧aC q.key
def aI:World→List Value→ai→Prop:=fun _ cs q=>cs=q.cells∧q.wf
theorem aI.stab(p:Nat):kc p aI:=fun _ _ _ _ h _=>h
def j4(q:ai):Bool:=decide (1≤q.max∧q.max≤40∧0≤q.topic∧q.topic<16∧0≤q.obj∧q.obj<6∧((q.kind=1∧q.opts=0∧q.key=0)∨(q.kind=2∧2≤q.opts∧q.opts≤5∧0≤q.key∧q.key<q.opts)))
theorem je{q:ai}(h:j4 q=true):1≤q.max∧q.max≤40∧0≤q.topic∧q.topic<16∧0≤q.obj∧q.obj<6∧((q.kind=1∧q.opts=0∧q.key=0)∨(q.kind=2∧2≤q.opts∧q.opts≤5∧0≤q.key∧q.key<q.opts)):=by simpa[j4] using h
def cm(q:ai):Int:=if j4 q=false then 0 else if q.kind=2 then 2+q.opts else min (2+q.max) 30
theorem nD(q:ai):0≤cm q∧cm q≤30:=by
 unfold cm;cases h:j4 q with
 |false=>simp
 |true =>
  have:=je h;simp only[Bool.true_eq_false,if_false];split<;>omega
theorem fo(q:ai)(w:World) :
  Calls prog 131 #[.agg #[A B q.kind,A B q.max,A B q.topic,A B q.obj,A B q.opts,A B q.key]] w fun e w'=>e=.returned (.bool (j4 q))∧ab w w':=by
 obtain⟨k,m,t,o,n,y⟩:=q;go_enter func131,ntmps131
 go_wp2
 all_goals (go_ret;exact⟨aa (by (try simp only[beq_iff_eq,beq_eq_false_iff_ne]at *);rw[yE];simp[j4];omega),(zE _).alloc _⟩)
theorem eK(q:ai)(w:World) :
  Calls prog 114 #[.agg #[A B q.kind,A B q.max,A B q.topic,A B q.obj,A B q.opts,A B q.key]] w fun e w'=>e=.returned (.bool (j4 q))∧ab w w':=by
 obtain⟨k,m,t,o,n,y⟩:=q;go_enter func114,ntmps114
 go_wp2
 all_goals (go_ret;exact⟨aa (by (try simp only[beq_iff_eq,beq_eq_false_iff_ne]at *);rw[yE];simp[j4];omega),(zE _).alloc _⟩)
theorem Hk{w w1:World}{o:Obj}{a b c d e f:Value}{t:TypeId}(ho:o=.cells #[a,b,c,d,e,f] t)(h:ab (w.alloc o) w1) :
  w1.cell? ⟨w.heap.size,0,none⟩=some a∧w1.cell? ⟨w.heap.size,1,none⟩=some b∧w1.cell? ⟨w.heap.size,2,none⟩=some c∧w1.cell? ⟨w.heap.size,3,none⟩=some d∧w1.cell? ⟨w.heap.size,4,none⟩=some e∧w1.cell? ⟨w.heap.size,5,none⟩=some f:=by
 subst ho;have hb:=h.blk (heap_alloc_new w _);refine⟨?_,?_,?_,?_,?_,?_⟩<;>(rw[cell_of_row w1 w.heap.size _ _ t (0,0) hb];rfl)
theorem EF(q:ai)(w:World) :
  Calls prog 133 #[.agg #[A B q.kind,A B q.max,A B q.topic,A B q.obj,A B q.opts,A B q.key]] w fun e w'=>e=.returned (A B (cm q))∧ab w w':=by
 cases hv:j4 q with
 |false =>
  have HV:=zZ hv;clear hv;go_enter func133,ntmps133
  go_wp2_with fail;refine (fo q _).mono ?_;rintro e w1 ⟨rfl,hx1⟩;rw[HV.out];go_wp2_with fail;go_ret
  exact⟨ah (by simp[cm,HV.out]),ab.trans ((zE _).alloc _) hx1⟩
 |true =>
  have HV:=zZ hv;have hb:=je hv;clear hv;have HN:Hid (cm q=if q.kind=2 then 2+q.opts else min (2+q.max) 30):=by show cm q=_;unfold cm;rw[if_neg (by simp[HV.out])]
  have hk:q.kind=1∨q.kind=2:=by omega
  obtain⟨k,m,t,o,n,y⟩:=q;simp only at hb hk;obtain⟨h1,h2,h3,h4,h5,h6,h7⟩:=hb;rcases hk with rfl|rfl;all_goals
   have HE:=zZ h7;clear h7;have hn5:n≤5:=by have:=HE.out;omega
   have hn0:0≤n:=by have:=HE.out;omega
   go_enter func133,ntmps133
   go_wp2_with fail;refine (fo ⟨_,m,t,o,n,y⟩ _).mono ?_;rintro e w1 ⟨rfl,hx1⟩;rw[HV.out];obtain⟨c0,c1,c2,c3,c4,c5⟩:=Hk rfl hx1;go_wp2_with fail;all_goals (go_ret;exact⟨ah (by rw[HN.out];simp;try omega),ab.trans ((zE _).alloc _) hx1⟩)
theorem rx(q:ai)(w:World) :
  Calls prog 87 #[.agg #[A B q.kind,A B q.max,A B q.topic,A B q.obj,A B q.opts,A B q.key]] w fun e w'=>e=.returned (A B (cm q))∧ab w w':=by
 cases hv:j4 q with
 |false =>
  have HV:=zZ hv;clear hv;go_enter func87,ntmps87
  go_wp2_with fail;refine (eK q _).mono ?_;rintro e w1 ⟨rfl,hx1⟩;rw[HV.out];go_wp2_with fail;go_ret
  exact⟨ah (by simp[cm,HV.out]),ab.trans ((zE _).alloc _) hx1⟩
 |true =>
  have HV:=zZ hv;have hb:=je hv;clear hv;have HN:Hid (cm q=if q.kind=2 then 2+q.opts else min (2+q.max) 30):=by show cm q=_;unfold cm;rw[if_neg (by simp[HV.out])]
  have hk:q.kind=1∨q.kind=2:=by omega
  obtain⟨k,m,t,o,n,y⟩:=q;simp only at hb hk;obtain⟨h1,h2,h3,h4,h5,h6,h7⟩:=hb;rcases hk with rfl|rfl;all_goals
   have HE:=zZ h7;clear h7;have hn5:n≤5:=by have:=HE.out;omega
   have hn0:0≤n:=by have:=HE.out;omega
   go_enter func87,ntmps87
   go_wp2_with fail;refine (eK ⟨_,m,t,o,n,y⟩ _).mono ?_;rintro e w1 ⟨rfl,hx1⟩;rw[HV.out];obtain⟨c0,c1,c2,c3,c4,c5⟩:=Hk rfl hx1;go_wp2_with fail;all_goals (go_ret;exact⟨ah (by rw[HN.out];simp;try omega),ab.trans ((zE _).alloc _) hx1⟩)
end Go.Proofs.YtjgfgdcaocbfhaaGreat

