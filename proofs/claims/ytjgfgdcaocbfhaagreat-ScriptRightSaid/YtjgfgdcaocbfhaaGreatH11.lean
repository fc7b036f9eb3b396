import Derived.Test.YtjgfgdcaocbfhaaGreatH10
import Derived.Deep.OwnRows
import Derived.Laws.EntriesVeiled
set_option linter.all false
set_option maxRecDepth 100000
set_option maxHeartbeats 0
namespace Go.Proofs.YtjgfgdcaocbfhaaGreat
open Go.Value renaming int→C,slice→G
open Go.IntKind renaming i64→D
open Go.RowKit
variable {base n:Nat} {c g p v:Int} {w:World}
def ng(ps:List Nat):List Int:=ps.map fun (p:Nat)=>(p:Int)
theorem jT(ps:List Nat):(ng ps).length=ps.length:=by simp[ng]
theorem vV{ps:List Nat}{k:Nat}{x:Int}(h:(ng ps)[k]?=some x):∃p:Nat,ps[k]?=some p∧x=(p:Int):=by unfold ng at h;rw[zL,yI]at h;obtain⟨c,h1,h2⟩:=h;exact⟨c,h1,h2.symm⟩
theorem mZ.matW{g eS eI cap wd:Nat}{M:Nat→Nat→F}(h:mZ base eS eI w (G (some ⟨g,0,none⟩) 6 cap) (F.matI M wd))(hne:eS≠eI)(hw:0<wd):eT base g eS eI w M wd:=by
 obtain⟨us,a,b,c,d⟩:=h;rw[F.matI_len]at a b;rcases b.2 with ⟨e,_⟩|⟨g',cap',cur,e,hg,hh,hnc,hcm,hcs,htk⟩
 ·cases e
 injection e with e1 e2 e3;injection e1 with e1;injection e1 with e1;subst e1;rw[wY]at htk;have hrow:∀r,r<6→∃br cr,us[r]?=some (G (some ⟨br,0,none⟩) wd cr)∧base≤br∧wd≤cr∧cr≤9223372036854775807∧∃cu:Array Value,w.heap[br]?=some (.cells cu eI (0,0))∧∀i,i<wd→cu[i]?=some (C D ((M r i).n:Int)):=by
  intro r hr;have hu:us[r]?=some us[r]:=zW (by omega);have ho:=c r _ _ hu (F.matI_at hr);rw[F.rowI_len]at ho;rcases ho.2 with ⟨e,h0⟩|⟨br,cr,cu,e,hb,hhb,h1,h2,h3,h4⟩
  ·omega
  ·refine⟨br,cr,by rw[hu,e],hb,h1,h2,cu,hhb,fun i hi=>?_⟩;rw[wY]at h4;have:(cu.toList.take wd)[i]?=some (C D ((M r i).n:Int)):=by
    rw[h4,zL,F.rowI_at hi];rfl
   rw[yB,if_pos hi]at this;simpa using this
 let br:Nat→Nat:=fun r=>if h:r<6 then (hrow r h).choose else 0
 have hbr:∀r (h:r<6),br r=(hrow r h).choose:=fun r h=>dif_pos h;let cr:Nat→Nat:=fun r=>if h:r<6 then (hrow r h).choose_spec.choose else 0
 have hcr:∀r (h:r<6),cr r=(hrow r h).choose_spec.choose:=fun r h=>dif_pos h;have spec:∀r,r<6→us[r]?=some (G (some ⟨br r,0,none⟩) wd (cr r))∧base≤br r∧wd≤cr r∧cr r≤9223372036854775807∧∃cu:Array Value,w.heap[br r]?=some (.cells cu eI (0,0))∧∀i,i<wd→cu[i]?=some (C D ((M r i).n:Int)):=fun r h=>by rw[hbr r h,hcr r h];exact (hrow r h).choose_spec.choose_spec
 refine⟨br,cr,cur,⟨hh,fun r hr=>?_,fun r hr=>(spec r hr).2.2.2.2,fun r s hr hs he=>?_,fun r hr he=>?_,fun r hr=>(spec r hr).2.1,hg,fun r hr=>⟨(spec r hr).2.2.1,(spec r hr).2.2.2.1⟩⟩⟩
 ·have:=(spec r hr).1;rw[←htk,yB,if_pos hr]at this;simpa using this
 ·rcases Nat.decEq r s with hne'|heq
  ·exact absurd (by rw[he];rfl) (d r s _ _ (br r) hne' (spec r hr).1 (spec s hs).1 rfl)
  ·exact heq
 ·obtain⟨cu,h1,_⟩:=(spec r hr).2.2.2.2;rw[he,hh]at h1;injection h1 with h1;injection h1 with _ h2;exact hne h2
open _root_.Go.Proofs.Tryz
theorem rq(n:Nat)(hn:n≤1000000)(w:World):(Instr.makeSlice 22 (C D (n:Int)) (C D (n:Int))).run prog w=.ok (G (some ⟨w.heap.size,0,none⟩) n n) (w.alloc (.cells (madeCells #[C D 0] n) 3)) :=
 run_make_row' 22 3 (C D 0) 8 underlying22 Tryz.infoI rfl .i64 .i64 n (by omega) (by omega) w
theorem qS(n:Nat):(madeCells #[Value.int .i64 0] n)=((wI (List.replicate n 0)).map (Value.int .i64)).toArray:=by
 apply Array.ext
 ·simp[madeCells,wI]
 ·intro i h1 h2;simp[madeCells,wI,Nat.mod_one,F.n_zero]
theorem mD{e size:Nat}{v:Value}{xs:List Value}(h:w.ownsRow base e size v n xs):∃A c,v=G A n c∧n≤c∧c≤9223372036854775807:=by
 rcases h.2 with ⟨rfl,rfl⟩|⟨g,cap,cur,rfl,_,_,h1,h2,_⟩
 ·exact⟨none,0,rfl,zX _,by omega⟩
 ·exact⟨_,_,rfl,h1,h2⟩
theorem ao.of_own'{p e:Nat}{v:Value}{l:List Int}(h:w.ownsRow base e 1 v n (l.map (Value.int .i64)))(hp:v.ownBlock≠some p)(hb:∀x∈l,aC x)(hl:l.length≤9223372036854775807):ao p w v l:=by
 have hn:l.length=n:=by simpa using h.1
 rcases h.2 with ⟨rfl,rfl⟩|⟨g,cap,cur,rfl,hg,hh,hnc,hcm,hcs,htk⟩
 ·obtain rfl:l=[]:=yO hn;exact ao.nil p w
 ·subst hn;refine⟨_,cap,rfl,hnc,hcm,hl,hb,fun k x hx=>⟨g,0,rfl,(fun e=>hp (by simp[Value.ownBlock,e])),?_⟩⟩;have hk:=(zY.1 hx).1;rw[yV,h.cellAt k (by omega)];simp[hx]
theorem rF{ps:List Nat}(h:∀p∈ps,p<1000000):∀x∈ng ps,aC x:=by intro x hx;unfold ng at hx;obtain⟨q,hq,rfl⟩:=zJ.1 hx;have:=h q hq;constructor<;>omega
def r9{α:Type}(a b:List α)(k:Nat):Prop:=∀j,j<k→a[j]?=b[j]?
section
variable {α:Type} {a b:List α} {k:Nat} {x y:α}
theorem r9.zero(a b:List α):r9 a b 0:=fun j hj=>by omega
theorem r9.succ(h:r9 a b k)(hx:a[k]?=some x)(hy:b[k]?=some y)(e:x=y):r9 a b (k+1):=by
 intro j hj;by_cases c:j=k
 ·subst c;rw[hx,hy,e]
 ·exact h j (by omega)
theorem r9.all(h:r9 a b n)(ha:a.length=n)(hb:b.length=n):a=b:=by
 apply wT;intro j;rcases zV j n with hj|hj
 ·exact h j hj
 ·rw[yH (by omega),yH (by omega)]
theorem Id(hx:a[k]?=some x)(hy:b[k]?=some y)(e:x≠y):a≠b:=by rintro rfl;rw[hx]at hy;exact e (xN hy)
end
theorem Fw(va vb:Value)(a b:List Int)(w:World){p q:Nat}(ha:ao p w va a)(hb:ao q w vb b) :
  Calls prog 12 #[va,vb] w fun e w'=>e=.returned (.bool (decide (a=b)))∧∃m,w'=w.drewN m:=by
 obtain⟨A,n,c,rfl,hnc,hc,hnn,HL⟩:=ha.open_;obtain⟨B,n',c',rfl,hnc',hc',hnn',HL'⟩:=hb.open_;have HA:=zZ ha;have HB:=zZ hb;clear ha hb;by_cases hn:n=n'
 ·subst hn;go_enter func12,ntmps12
  go_wp2_with fail;go_loopw [5] (fun i wr=>∃(k m:Nat),k≤n∧i=C D k∧Hid (r9 a b k)∧wr=w.drewN m) (fun i _=>n-(intOf i).toNat)
  case atStart=>exact⟨0,0,yK _,rfl,r9.zero _ _,rfl⟩
  case round =>
   obtain⟨k,m,hk,rfl,HK,rfl⟩:=hrel;by_cases hlt:k<n
   ·obtain⟨b1,o1,x,rfl,hcx,HX,hx1,hx2⟩:=HA.out.at_ hlt;obtain⟨b2,o2,y,rfl,hcy,HY,hy1,hy2⟩:=HB.out.at_ hlt;by_cases e:x=y
    ·have e1:(x != y)=false:=by simp[e]
     have E:=zZ e;clear e;go_wp2_with fail;go_quiet (fail)
     go_wp2_with fail;go_roundw
     case rel=>exact⟨k+1,_,by omega,by go_num,HK.out.succ HX.out HY.out E.out,rfl⟩
     case measure=>simp[intOf];omega
    ·have e1:(x != y)=true:=by simp[e]
     have E:=zZ e;clear e;go_wp2_with fail;go_quiet (fail)
     go_wp2_with fail;go_ret
     exact⟨aa (by have:=Id HX.out HY.out E.out;simp[this]),_,World.drewN_drewN _ _ _⟩
   ·obtain rfl:k=n:=by omega
    go_wp2_with fail;go_ret
    exact⟨aa (by have:=HK.out.all HL.out HL'.out;simp[this]),_,rfl⟩
 ·have e1:((n:Int)!=(n':Int))=true:=by simp;omega
  have HN:Hid (a≠b):=by rintro rfl;exact hn (HL.out.symm.trans HL'.out)
  clear hn;go_enter func12,ntmps12
  go_wp2_with fail;go_ret
  exact⟨aa (by have:=HN.out;simp[this]),0,rfl⟩
theorem dH(va vb:Value)(a b:List Int)(w:World){p q:Nat}(ha:ao p w va a)(hb:ao q w vb b) :
  Calls prog 12 #[va,vb] w fun e w'=>e=.returned (.bool (decide (a=b)))∧ab w w' :=
 (Fw va vb a b w ha hb).mono fun _ _ ⟨he,m,hm⟩=>⟨he,by rw[hm];exact (zE _).drewN _⟩
theorem F8{d:List F}(h1:1≤d.length)(h9:d.length≤9):pp (wI d)=wI (sl d)∧tx (wI d)=0:=by
 have:jf (wI d)=true:=uM (by rw[dv];exact h1) (by rw[dv];exact h9) (by intro x hx;unfold wI at hx;obtain⟨c,_,rfl⟩:=zJ.1 hx;have:=c.lt;omega)
 unfold pp tx;rw[this,wi];exact⟨rfl,rfl⟩
theorem GS(cw:List F)(i:Nat):(wI cw).getD i 0=((cw.getD i 0).n:Int):=by unfold wI;rw[yD,yD,zL];cases cw[i]?<;>rfl
theorem Bn{v:Value}{l:List Int}(h:w.ownsRow base 3 1 v n (l.map (Value.int .i64)))(hb:∀x∈l,aC x)(hl:l.length≤9223372036854775807):ao w.heap.size w v l :=
 ao.of_own' (p:=w.heap.size) (e:=3) h (fun e=>by have:=(h.lt _ e).2;omega) hb hl
def ez(p c g v:Int):Bool:=decide ((0≤p∧p<32)∧(0≤g∧g<32)∧(0≤v∧v<32)∧0≤c∧c≤9999)
theorem kN:ez p c g v=true↔(0≤p∧p<32)∧(0≤g∧g<32)∧(0≤v∧v<32)∧0≤c∧c≤9999:=by unfold ez;exact decide_eq_true_iff
theorem oO(n m:Int)(w:World) :
  Calls prog 139 #[C D n,C D m] w fun e w'=>e=.returned (.bool (decide (0≤n∧n≤m)))∧w=w':=by
 go_enter func139,ntmps139
 go_wp2
 all_goals (go_ret;exact⟨aa (by first|(simp;omega)|(rw[yE];simp;omega)),rfl⟩)
theorem di(n m:Int)(w:World)(h:0≤n∧n≤m) :
  Calls prog 139 #[C D n,C D m] w fun e w'=>e=.returned (.bool true)∧w=w' :=
 (oO n m w).mono fun _ _ ⟨he,hw⟩=>⟨he.trans (aa (decide_eq_true h)),hw⟩
theorem jQ(n m:Int)(w:World)(h:¬(0≤n∧n≤m)) :
  Calls prog 139 #[C D n,C D m] w fun e w'=>e=.returned (.bool false)∧w=w' :=
 (oO n m w).mono fun _ _ ⟨he,hw⟩=>⟨he.trans (aa (decide_eq_false h)),hw⟩
theorem iU(p c g v:Int)(w:World) :
  Calls prog 115 #[.agg #[C D p,C D c,C D g,C D v]] w fun e w'=>e=.returned (.bool (ez p c g v))∧ab w w':=by
 by_cases hp:0≤p∧p≤31;rotate_left
 ·have HB:Hid (ez p c g v=false):=by show _=_;unfold ez;exact decide_eq_false (by omega)
  go_enter func115,ntmps115
  go_wp2_with fail;refine (jQ p 31 _ hp).mono ?_;rintro r w1 ⟨rfl,rfl⟩;go_wp2_with fail;go_ret
  exact⟨aa HB.out.symm,(zE _).alloc _⟩
 by_cases hg:0≤g∧g≤31;rotate_left
 ·have HB:Hid (ez p c g v=false):=by show _=_;unfold ez;exact decide_eq_false (by omega)
  go_enter func115,ntmps115
  go_wp2_with fail;refine (di p 31 _ hp).mono ?_;rintro r w1 ⟨rfl,rfl⟩;go_wp2_with fail;refine (jQ g 31 _ hg).mono ?_;rintro r w1 ⟨rfl,rfl⟩;go_wp2_with fail;go_ret
  exact⟨aa HB.out.symm,(zE _).alloc _⟩
 by_cases hv:0≤v∧v≤31;rotate_left
 ·have HB:Hid (ez p c g v=false):=by show _=_;unfold ez;exact decide_eq_false (by omega)
  go_enter func115,ntmps115
  go_wp2_with fail;refine (di p 31 _ hp).mono ?_;rintro r w1 ⟨rfl,rfl⟩;go_wp2_with fail;refine (di g 31 _ hg).mono ?_;rintro r w1 ⟨rfl,rfl⟩;go_wp2_with fail;refine (jQ v 31 _ hv).mono ?_;rintro r w1 ⟨rfl,rfl⟩;go_wp2_with fail;go_ret
  exact⟨aa HB.out.symm,(zE _).alloc _⟩
 by_cases hc:0≤c∧c≤9999
 ·have HB:Hid (ez p c g v=true):=by show _=_;unfold ez;exact decide_eq_true (by omega)
  go_enter func115,ntmps115
  go_wp2_with fail;refine (di p 31 _ hp).mono ?_;rintro r w1 ⟨rfl,rfl⟩;go_wp2_with fail;refine (di g 31 _ hg).mono ?_;rintro r w1 ⟨rfl,rfl⟩;go_wp2_with fail;refine (di v 31 _ hv).mono ?_;rintro r w1 ⟨rfl,rfl⟩;go_wp2_with fail;refine (di c 9999 _ hc).mono ?_;rintro r w1 ⟨rfl,rfl⟩;go_wp2_with fail;go_ret
  exact⟨aa HB.out.symm,(zE _).alloc _⟩
 ·have HB:Hid (ez p c g v=false):=by show _=_;unfold ez;exact decide_eq_false (by omega)
  go_enter func115,ntmps115
  go_wp2_with fail;refine (di p 31 _ hp).mono ?_;rintro r w1 ⟨rfl,rfl⟩;go_wp2_with fail;refine (di g 31 _ hg).mono ?_;rintro r w1 ⟨rfl,rfl⟩;go_wp2_with fail;refine (di v 31 _ hv).mono ?_;rintro r w1 ⟨rfl,rfl⟩;go_wp2_with fail;refine (jQ c 9999 _ hc).mono ?_;rintro r w1 ⟨rfl,rfl⟩;go_wp2_with fail;go_ret
  exact⟨aa HB.out.symm,(zE _).alloc _⟩
def j7(p c g v:Int):List Int:=[p,c/1024,c/32%32,c%32,g,v]
def Em(p c g v:Int):List Int:=if ez p c g v then j7 p c g v else []
def CH(p c g v:Int):Int:=if ez p c g v then 0 else 2
def GI(p c g v:Int)(w:World)(e:Ending)(w':World):Prop:=∃A n cc k,e=.returned (.tuple #[G A n cc,C D k])∧k=CH p c g v∧ao w'.heap.size w' (G A n cc) (Em p c g v)∧ab w w'
theorem uY(h:ez p c g v=true):∀x∈j7 p c g v,0≤x∧x<32:=by intro x hx;have:=kN.1 h;unfold j7 at hx;simp only[yG,wK,or_false]at hx;omega
theorem Ed(h:ez p c g v=true):∀x∈j7 p c g v,aC x:=fun x hx=>by have:=uY h x hx;constructor<;>omega
theorem Bs(h:ez p c g v=true):Em p c g v=j7 p c g v∧CH p c g v=0:=by unfold Em CH;rw[h];exact⟨rfl,rfl⟩
theorem Dm(h:ez p c g v=false):Em p c g v=[]∧CH p c g v=2:=by unfold Em CH;rw[h];exact⟨rfl,rfl⟩
theorem ao.lits(l:List Int)(t:TypeId)(hb:∀x∈l,aC x)(hl:l.length≤9223372036854775807):ao (w.alloc (.cells (l.map (Value.int .i64)).toArray t)).heap.size (w.alloc (.cells (l.map (Value.int .i64)).toArray t)) (G (some ⟨w.heap.size,0,none⟩) l.length l.length) l :=
 ⟨_,_,rfl,zX _,by omega,hl,hb,fun k x hx=>⟨w.heap.size,0,rfl,by simp,by rw[yV,cell_of_row _ _ k _ t (0,0) (heap_alloc_new w _)];simp[hx]⟩⟩
theorem qF(p c g v:Int)(w:World) :
  Calls prog 88 #[.agg #[C D p,C D c,C D g,C D v]] w (GI p c g v w):=by
 rcases yF (ez p c g v) with hb|hb
 ·obtain⟨⟨hp1,hp2⟩,⟨hg1,hg2⟩,⟨hv1,hv2⟩,hc1,hc2⟩:=kN.1 hb;obtain⟨s1,s2⟩:=Bs hb;have S1:=zZ s1;have S2:=zZ s2;have HM:=zZ (Ed hb);clear s1 s2;obtain⟨w0,hw0⟩:=nm (w.alloc (.cells #[C D p,C D c,C D g,C D v] 73));have cc:=fun i=>cell_of_row (w:=w.alloc (.cells #[C D p,C D c,C D g,C D v] 73)) w.heap.size i _ _ _ (heap_alloc_new w _);rw[←hw0]at cc;have c0:=cc 0;have c1:=cc 1;have c2:=cc 2;have c3:=cc 3;simp at c0 c1 c2 c3;have HE:Hid (ab w w0):=by rw[hw0];exact (zE _).alloc _
  clear cc;go_enter func88,ntmps88
  go_wp2_with fail;rw[←hw0];clear hw0;refine (iU p c g v _).mono ?_;rintro r w1 ⟨rfl,hx⟩;rw[hb];replace c0:=hx.cell c0;replace c1:=hx.cell c1;replace c2:=hx.cell c2;replace c3:=hx.cell c3;have HX:=zZ (HE.out.trans hx);clear hx HE;go_wp2_with fail;go_ret2
  refine⟨_,_,_,_,rfl,S2.out.symm,?_,HX.out.alloc _⟩;rw[S1.out];exact ao.lits (j7 p c g v) 3 HM.out (by unfold j7;simp)
 ·obtain⟨s1,s2⟩:=Dm hb;have S1:=zZ s1;have S2:=zZ s2;clear s1 s2;go_enter func88,ntmps88
  go_wp2_with fail;refine (iU p c g v _).mono ?_;rintro r w1 ⟨rfl,hx⟩;rw[hb];have HX:=zZ hx;clear hx;go_wp2_with fail;go_ret2
  exact⟨_,_,_,_,rfl,S2.out.symm,by rw[S1.out];exact ao.nil _ _,ab.trans ((zE _).alloc _) HX.out⟩
theorem rO{p:Nat}{A:Option Addr}{c k:Nat}{f:List F}(h:ao p w (G A n c) (wI f))(hk:k<n):∃b off,A=some ⟨b,off,none⟩∧w.cell? ⟨b,off+k,none⟩=some (C D ((f.getD k 0).n:Int)):=by obtain⟨b,off,x,ha,hc,hx,_⟩:=h.at_ hk;refine⟨b,off,ha,?_⟩;rw[hc];have e:=GS f k;rw[yD,hx.out]at e;rw[←e];rfl
end Go.Proofs.YtjgfgdcaocbfhaaGreat

