import Derived.Test.YtjgfgdcaocbfhaaGreatH8
import Derived.Laws.CopyOwn
set_option linter.all false
set_option maxRecDepth 100000
set_option maxHeartbeats 0
namespace Go.Proofs.YtjgfgdcaocbfhaaGreat
open Go.RowKit
variable {w:World} {k n:Nat} {c f g p v:Int} {l:List Int}
theorem F8{d:List F}(h1:1≤d.length)(h9:d.length≤9):pp (wI d)=wI (sl d)∧tx (wI d)=0:=by
 have:jf (wI d)=true:=uM (by rw[dv];exact h1) (by rw[dv];exact h9) (by intro x hx;unfold wI at hx;obtain⟨c,_,rfl⟩:=zJ.1 hx;have:=c.lt;omega)
 unfold pp tx;rw[this,wi];exact⟨rfl,rfl⟩
theorem GS(cw:List F)(i:Nat):(wI cw).getD i 0=((cw.getD i 0).n:Int):=by unfold wI;rw[yD,yD,zL];cases cw[i]?<;>rfl
theorem Bn{base:Nat}{v:Value}(h:w.ownsRow base 3 1 v n (l.map (Value.int .i64)))(hb:∀x∈l,aC x)(hl:l.length≤9223372036854775807):ao w.heap.size w v l :=
 ao.of_own' (p:=w.heap.size) (e:=3) h (fun e=>by have:=(h.lt _ e).2;omega) hb hl
open _root_.Go.Proofs.Tryz
def ez(p c g v:Int):Bool:=decide ((0≤p∧p<32)∧(0≤g∧g<32)∧(0≤v∧v<32)∧0≤c∧c≤9999)
theorem kN:ez p c g v=true↔(0≤p∧p<32)∧(0≤g∧g<32)∧(0≤v∧v<32)∧0≤c∧c≤9999:=by unfold ez;exact decide_eq_true_iff
theorem oO(n m:Int)(w:World) :
  Calls prog 139 #[.int .i64 n,.int .i64 m] w fun e w'=>e=.returned (.bool (decide (0≤n∧n≤m)))∧w=w':=by
 go_enter func139,ntmps139
 go_wp2
 all_goals (go_ret;exact⟨aa (by first|(simp;omega)|(rw[yE];simp;omega)),rfl⟩)
theorem di(n m:Int)(w:World)(h:0≤n∧n≤m) :
  Calls prog 139 #[.int .i64 n,.int .i64 m] w fun e w'=>e=.returned (.bool true)∧w=w' :=
 (oO n m w).mono fun _ _ ⟨he,hw⟩=>⟨he.trans (aa (decide_eq_true h)),hw⟩
theorem jQ(n m:Int)(w:World)(h:¬(0≤n∧n≤m)) :
  Calls prog 139 #[.int .i64 n,.int .i64 m] w fun e w'=>e=.returned (.bool false)∧w=w' :=
 (oO n m w).mono fun _ _ ⟨he,hw⟩=>⟨he.trans (aa (decide_eq_false h)),hw⟩
theorem iU(p c g v:Int)(w:World) :
  Calls prog 115 #[.agg #[.int .i64 p,.int .i64 c,.int .i64 g,.int .i64 v]] w fun e w'=>e=.returned (.bool (ez p c g v))∧ab w w':=by
 by_cases hp:0≤p∧p≤31;rotate_left
 ·have HB:Hid (ez p c g v=false):=by show _=_;unfold ez;exact decide_eq_false (by omega)
  go_enter func115,ntmps115
  go_wp2_with fail;refine (jQ p 31 _ hp).mono ?_;rintro r w1 ⟨rfl,rfl⟩;go_wp2_with fail;go_ret
  exact⟨aa HB.out.symm,(zE _).alloc _⟩
 by_cases hg:0≤g∧g≤31;rotate_left
 ·have HB:Hid (ez p c g v=false):=by show _=_;unfold ez;exact decide_eq_false (by omega)
  go_enter func115,ntmps115
  go_wp2_with fail;refine (di p 31 _ hp).mono ?_;rintro r w1 ⟨rfl,rfl⟩;go_wp2_with fail;refine (jQ g 31 _ hg).mono ?_;rintro r w1 ⟨rfl,rfl⟩;go_wp2_with fail;go_ret
  exact⟨aa HB.out.symm,(zE _).alloc _⟩
 by_cases hv:0≤v∧v≤31;rotate_left
 ·have HB:Hid (ez p c g v=false):=by show _=_;unfold ez;exact decide_eq_false (by omega)
  go_enter func115,ntmps115
  go_wp2_with fail;refine (di p 31 _ hp).mono ?_;rintro r w1 ⟨rfl,rfl⟩;go_wp2_with fail;refine (di g 31 _ hg).mono ?_;rintro r w1 ⟨rfl,rfl⟩;go_wp2_with fail;refine (jQ v 31 _ hv).mono ?_;rintro r w1 ⟨rfl,rfl⟩;go_wp2_with fail;go_ret
  exact⟨aa HB.out.symm,(zE _).alloc _⟩
 by_cases hc:0≤c∧c≤9999
 ·have HB:Hid (ez p c g v=true):=by show _=_;unfold ez;exact decide_eq_true (by omega)
  go_enter func115,ntmps115
  go_wp2_with fail;refine (di p 31 _ hp).mono ?_;rintro r w1 ⟨rfl,rfl⟩;go_wp2_with fail;refine (di g 31 _ hg).mono ?_;rintro r w1 ⟨rfl,rfl⟩;go_wp2_with fail;refine (di v 31 _ hv).mono ?_;rintro r w1 ⟨rfl,rfl⟩;go_wp2_with fail;refine (di c 9999 _ hc).mono ?_;rintro r w1 ⟨rfl,rfl⟩;go_wp2_with fail;go_ret
  exact⟨aa HB.out.symm,(zE _).alloc _⟩
 ·have HB:Hid (ez p c g v=false):=by show _=_;unfold ez;exact decide_eq_false (by omega)
  go_enter func115,ntmps115
  go_wp2_with fail;refine (di p 31 _ hp).mono ?_;rintro r w1 ⟨rfl,rfl⟩;go_wp2_with fail;refine (di g 31 _ hg).mono ?_;rintro r w1 ⟨rfl,rfl⟩;go_wp2_with fail;refine (di v 31 _ hv).mono ?_;rintro r w1 ⟨rfl,rfl⟩;go_wp2_with fail;refine (jQ c 9999 _ hc).mono ?_;rintro r w1 ⟨rfl,rfl⟩;go_wp2_with fail;go_ret
  exact⟨aa HB.out.symm,(zE _).alloc _⟩
def j7(p c g v:Int):List Int:=[p,c/1024,c/32%32,c%32,g,v]
def Em(p c g v:Int):List Int:=if ez p c g v then j7 p c g v else []
def CH(p c g v:Int):Int:=if ez p c g v then 0 else 2
def GI(p c g v:Int)(w:World)(e:Ending)(w':World):Prop:=∃A n cc k,e=.returned (.tuple #[.slice A n cc,.int .i64 k])∧k=CH p c g v∧ao w'.heap.size w' (.slice A n cc) (Em p c g v)∧ab w w'
theorem uY(h:ez p c g v=true):∀x∈j7 p c g v,0≤x∧x<32:=by intro x hx;have:=kN.1 h;unfold j7 at hx;simp only[yG,wK,or_false]at hx;omega
theorem Ed(h:ez p c g v=true):∀x∈j7 p c g v,aC x:=fun x hx=>by have:=uY h x hx;constructor<;>omega
theorem Bs(h:ez p c g v=true):Em p c g v=j7 p c g v∧CH p c g v=0:=by unfold Em CH;rw[h];exact⟨rfl,rfl⟩
theorem Dm(h:ez p c g v=false):Em p c g v=[]∧CH p c g v=2:=by unfold Em CH;rw[h];exact⟨rfl,rfl⟩
theorem ao.lits(l:List Int)(t:TypeId)(hb:∀x∈l,aC x)(hl:l.length≤9223372036854775807):ao (w.alloc (.cells (l.map (Value.int .i64)).toArray t)).heap.size (w.alloc (.cells (l.map (Value.int .i64)).toArray t)) (.slice (some ⟨w.heap.size,0,none⟩) l.length l.length) l :=
 ⟨_,_,rfl,zX _,by omega,hl,hb,fun k x hx=>⟨w.heap.size,0,rfl,by simp,by rw[yV,cell_of_row _ _ k _ t (0,0) (heap_alloc_new w _)];simp[hx]⟩⟩
theorem qF(p c g v:Int)(w:World) :
  Calls prog 88 #[.agg #[.int .i64 p,.int .i64 c,.int .i64 g,.int .i64 v]] w (GI p c g v w):=by
 rcases yF (ez p c g v) with hb|hb
 ·obtain⟨⟨hp1,hp2⟩,⟨hg1,hg2⟩,⟨hv1,hv2⟩,hc1,hc2⟩:=kN.1 hb;obtain⟨s1,s2⟩:=Bs hb;have S1:=zZ s1;have S2:=zZ s2;have HM:=zZ (Ed hb);clear s1 s2;obtain⟨w0,hw0⟩:=nm (w.alloc (.cells #[.int .i64 p,.int .i64 c,.int .i64 g,.int .i64 v] 73));have cc:=fun i=>cell_of_row (w:=w.alloc (.cells #[.int .i64 p,.int .i64 c,.int .i64 g,.int .i64 v] 73)) w.heap.size i _ _ _ (heap_alloc_new w _);rw[←hw0]at cc;have c0:=cc 0;have c1:=cc 1;have c2:=cc 2;have c3:=cc 3;simp at c0 c1 c2 c3;have HE:Hid (ab w w0):=by rw[hw0];exact (zE _).alloc _
  clear cc;go_enter func88,ntmps88
  go_wp2_with fail;rw[←hw0];clear hw0;refine (iU p c g v _).mono ?_;rintro r w1 ⟨rfl,hx⟩;rw[hb];replace c0:=hx.cell c0;replace c1:=hx.cell c1;replace c2:=hx.cell c2;replace c3:=hx.cell c3;have HX:=zZ (HE.out.trans hx);clear hx HE;go_wp2_with fail;go_ret2
  refine⟨_,_,_,_,rfl,S2.out.symm,?_,HX.out.alloc _⟩;rw[S1.out];exact ao.lits (j7 p c g v) 3 HM.out (by unfold j7;simp)
 ·obtain⟨s1,s2⟩:=Dm hb;have S1:=zZ s1;have S2:=zZ s2;clear s1 s2;go_enter func88,ntmps88
  go_wp2_with fail;refine (iU p c g v _).mono ?_;rintro r w1 ⟨rfl,hx⟩;rw[hb];have HX:=zZ hx;clear hx;go_wp2_with fail;go_ret2
  exact⟨_,_,_,_,rfl,S2.out.symm,by rw[S1.out];exact ao.nil _ _,ab.trans ((zE _).alloc _) HX.out⟩
theorem rO{p:Nat}{A:Option Addr}{c:Nat}{f:List F}(h:ao p w (.slice A n c) (wI f))(hk:k<n):∃b off,A=some ⟨b,off,none⟩∧w.cell? ⟨b,off+k,none⟩=some (.int .i64 ((f.getD k 0).n:Int)):=by obtain⟨b,off,x,ha,hc,hx,_⟩:=h.at_ hk;refine⟨b,off,ha,?_⟩;rw[hc];have e:=GS f k;rw[yD,hx.out]at e;rw[←e];rfl
theorem F0(x c:F)(l:List F):F.ev x (l++[c])=F.ev x l*x+c:=by
 rw[F.ev_app,show [c].length=1 from rfl,F.pwr_one];congr 1
 show c*F.pwr x 0+0=c
 show c*1+0=c
 rw[F.mul_one,F.add_zero]
theorem FX{x:F}{l:List F}(h:k<l.length):F.ev x (l.take (k+1))=F.ev x (l.take k)*x+l.getD k 0:=by rw[List.take_add_one,F.getD_eq h];exact F0 _ _ _
def Ho(f:Int)(l:List Int)(k:Nat):Prop:=∀i,i<k→f≤l.getD i 0∧l.getD i 0<32
theorem DW(h:Ho f l n)(hl:l.length=n)(h7:7≤n)(h15:n≤15):dt f l=true :=
 pQ (by omega) (by omega) fun x hx=>by obtain⟨i,hi,rfl⟩:=List.getElem_of_mem hx;have:=h i (by omega);rw[yD,zW hi]at this;exact this
theorem ud{x:Int}(hx:l[k]?=some x)(h:x<f∨31<x):dt f l=false:=by
 rcases yF (dt f l) with hb|hb
 ·have:=(ei hb).2.2 x (zU hx);omega
 ·exact hb
theorem tn(h:l.length<7∨15<l.length):dt f l=false:=by
 rcases yF (dt f l) with hb|hb
 ·have:=ei hb;omega
 ·exact hb
theorem fR{p:Nat}(v:Value)(l:List Int)(f:Int)(w:World)(hI:ao p w v l)(f1:-10≤f)(f2:f≤10) :
  Calls prog 150 #[v,.int .i64 f] w fun e w'=>e=.returned (.bool (dt f l))∧ab w w':=by
 obtain⟨A,n,c,rfl,hnc,hc,hnn,HL⟩:=hI.open_;have HI:=zZ hI;clear hI;by_cases h7:n<7
 ·go_enter func150,ntmps150
  go_wp2_with fail;go_ret
  exact⟨aa (tn (.inl (by rw[HL.out];exact h7))).symm,zE _⟩
 by_cases h15:15<n
 ·go_enter func150,ntmps150
  go_wp2_with fail;go_ret
  exact⟨aa (tn (.inr (by rw[HL.out];exact h15))).symm,zE _⟩
 go_enter func150,ntmps150
 go_wp2_with fail;go_loopw [5] (fun s5 wr=>∃(k:Nat),s5=.int .i64 (k:Int)∧k≤n∧Hid (Ho f l k∧ab w wr)) (fun i _=>n-(intOf i).toNat)
 case atStart=>exact⟨0,rfl,by omega,fun i hi=>by omega,zE _⟩
 case round =>
  obtain⟨k,rfl,hk,HK⟩:=hrel;by_cases hkn:k<n
  ·obtain⟨b,off,x,rfl,cx,hx,hx1,hx2⟩:=(HI.out.ext HK.out.2).at_ hkn;by_cases hlo:x<f
   ·go_wp2_with fail;go_ret
    exact⟨aa (ud hx.out (.inl hlo)).symm,HK.out.2⟩
   by_cases hhi:31<x
   ·go_wp2_with fail;go_ret
    exact⟨aa (ud hx.out (.inr hhi)).symm,HK.out.2⟩
   go_wp2_with fail;go_roundw
   case rel =>
    refine⟨k+1,by go_num,by omega,fun i hi=>?_,HK.out.2⟩;rcases zV i k with h|h
    ·exact HK.out.1 i h
    ·obtain rfl:i=k:=by omega
     rw[yD,hx.out];show f≤x∧x<32
     omega
   case measure=>simp[intOf];omega
  ·obtain rfl:k=n:=by omega
   go_wp2_with fail;go_ret
   exact⟨aa (DW HK.out.1 HL.out (by omega) (by omega)).symm,HK.out.2⟩
theorem vm{p:Nat}(v:Value)(wd:List F)(j:Nat)(w:World)(hI:ao p w v (wI wd))(hj:j≤1000) :
  Calls prog 141 #[v,.int .i64 (j:Int)] w fun e w'=>e=.returned (.int .i64 ((F.ev (F.gp j) wd).n:Int))∧ab w w':=by
 obtain⟨A,n,c,rfl,hnc,hc,hnn,HL0⟩:=hI.open_;have HL:Hid (wd.length=n):=by have:=HL0.out;rw[dv]at this;exact this
 have HI:=zZ hI;clear hI HL0;go_enter func141,ntmps141
 go_wp2_with fail;refine (uk j _ (by omega)).mono ?_;rintro e w1 ⟨rfl,hx1⟩;replace HI:=zZ (HI.out.ext hx1);replace hx1:=zZ hx1;generalize hgx:F.gp j=x;go_wp2_with fail;go_loopw [5,7] (fun s5 s7 wr=>∃(k:Nat) (y:F),s5=.int .i64 (y.n:Int)∧s7=.int .i64 (k:Int)∧k≤n∧Hid (y=F.ev x (wd.take k)∧ab w1 wr)) (fun _ i _=>n-(intOf i).toNat)
 case atStart=>exact⟨0,0,rfl,rfl,by omega,rfl,zE _⟩
 case round =>
  obtain⟨k,y,rfl,rfl,hk,HK⟩:=hrel;by_cases hkn:k<n
  ·obtain⟨b,off,rfl,cx⟩:=rO (HI.out.ext HK.out.2) hkn;have hxor:=Gy (y*x) (wd.getD k 0);have HY:Hid (y*x+wd.getD k 0=F.ev x (wd.take (k+1))):=by show _=_;rw[FX (by rw[HL.out];exact hkn),HK.out.1]
   generalize wd.getD k 0=d at *
   have HQ:Hid (∀n,Calls prog 143 #[.int .i64 (y.n:Int),.int .i64 (x.n:Int)] (wr.drewN n) fun e w'=>e=.returned (.int .i64 ((y*x).n:Int))∧∃n',w'=(wr.drewN n).drewN n'):=fun n=>(xl y x _).mono fun _ _ ⟨h1,h2⟩=>⟨h1,0,by rw[h2];rfl⟩
   go_wp2_with fail;go_quiet ((go_at_call 143;exact Calls.quiet_of (HQ.out _)))
   go_wp2_with fail;go_roundw
   case rel=>exact⟨k+1,_,rfl,by go_num,by omega,HY.out,HK.out.2.drewN _⟩
   case measure=>simp[intOf];omega
  ·obtain rfl:k=n:=by omega
   have HY:Hid (y=F.ev x wd):=by have h:=HK.out.1;rw[xM (by rw[HL.out];omega)]at h;exact h
   go_wp2_with fail;go_ret
   exact⟨by rw[HY.out,hgx];rfl,hx1.out.trans HK.out.2⟩
def vH(wd:List F)(k:Nat):Prop:=∀j,1≤j→j≤k→F.ev (F.gp j) wd=0
theorem EM(hb:dt 0 l=true)(h:vH (ff l) 6):gk l=true:=by unfold gk;rw[hb,yU];exact (pd _).2 h
theorem Dv{j:Nat}(hb:dt 0 l=true)(h1:1≤j)(h6:j≤6)(h:F.ev (F.gp j) (ff l)≠0):gk l=false:=by
 rcases yF (gk l) with hc|hc
 ·unfold gk at hc;rw[hb,yU]at hc;exact absurd ((pd _).1 hc j h1 h6) h
 ·exact hc
theorem qu{p:Nat}(v:Value)(l:List Int)(w:World)(hI:ao p w v l) :
  Calls prog 144 #[v] w fun e w'=>e=.returned (.bool (gk l))∧ab w w':=by
 have HI:=zZ hI;clear hI;rcases yF (dt 0 l) with hb|hb
 ·have HB:=zZ hb;have HW:=zZ (DI (ei hb).2.2);go_enter func144,ntmps144
  go_wp2_with fail;refine (fR _ l 0 _ HI.out (by omega) (by omega)).mono ?_;rintro e w1 ⟨rfl,hx1⟩;rw[hb];replace HI:=zZ (HI.out.ext hx1);replace hx1:=zZ hx1;clear hb;go_wp2_with fail;go_loopw [3] (fun s3 wr=>∃(k:Nat),s3=.int .i64 (k:Int)∧1≤k∧k≤7∧Hid (vH (ff l) (k-1)∧ab w1 wr)) (fun i _=>7-(intOf i).toNat)
  case atStart=>exact⟨1,rfl,by omega,by omega,fun j h1 h2=>by omega,zE _⟩
  case round =>
   obtain⟨k,rfl,hk1,hk7,HK⟩:=hrel;by_cases hk:k≤6
   ·go_upto_if 14 with (go_at_call 141;refine (vm _ (ff l) k _ (by rw[HW.out];exact HI.out.ext HK.out.2) (by omega)).mono ?_;rintro e w2 ⟨rfl,hx2⟩)
    have HX2:=zZ (HK.out.2.trans hx2);clear hx2;by_cases he:F.ev (F.gp k) (ff l)=0
    ·have HZ:Hid (vH (ff l) (k+1-1)):=by
      intro j h1 h2;rcases zV j k with h|h
      ·exact HK.out.1 j h1 (by omega)
      ·obtain rfl:j=k:=by omega
       exact he
     rw[he];have hz0:((0:F).n:Int)=0:=rfl;rw[hz0];clear he hz0;go_wp2_with fail;go_roundw
     case rel=>exact⟨k+1,by go_num,by omega,by omega,HZ.out,HX2.out⟩
     case measure=>simp[intOf];omega
    ·have HC:Hid (gk l=false):=Dv HB.out hk1 hk he;have hn:(F.ev (F.gp k) (ff l)).n≠0:=fun e=>he (F.ext e);have hlt:=(F.ev (F.gp k) (ff l)).lt;generalize F.ev (F.gp k) (ff l)=y at *
     clear he;go_wp2_with fail;go_ret
     exact⟨aa HC.out.symm,hx1.out.trans HX2.out⟩
   ·have HC:Hid (gk l=true):=EM HB.out (by rw[show 6=k-1 by omega];exact HK.out.1);go_wp2_with fail;go_ret
    exact⟨aa HC.out.symm,hx1.out.trans HK.out.2⟩
 ·have HF:Hid (gk l=false):=by show _=_;unfold gk;rw[hb];rfl
  go_enter func144,ntmps144
  go_wp2_with fail;refine (fR _ l 0 _ HI.out (by omega) (by omega)).mono ?_;rintro e w1 ⟨rfl,hx1⟩;rw[hb];go_wp2_with fail;go_ret
  exact⟨aa HF.out.symm,hx1⟩
def sG{α:Type}(z:α)(l:List α)(ps:List Nat):List α:=ps.foldl (fun a p=>a.set p z) l
section
variable {α:Type} {z:α}
theorem rL(l:List α)(ps:List Nat):(sG z l ps).length=l.length:=by
 induction ps generalizing l with
 |nil=>rfl
 |cons p ps ih=>show (sG z (l.set p z) ps).length=_;rw[ih,xO]
theorem EZ(l:List α)(ps:List Nat)(p:Nat):sG z l (ps++[p])=(sG z l ps).set p z:=by unfold sG;rw[List.foldl_append];rfl
theorem so(l:List α)(ps:List Nat)(i:Nat):(sG z l ps)[i]?=if i<l.length∧i∈ps then some z else l[i]?:=by
 induction ps generalizing l with
 |nil=>rw[if_neg (by simp)];rfl
 |cons p ps ih =>
  show (sG z (l.set p z) ps)[i]?=_
  rw[ih,xO,List.getElem?_set];by_cases h1:i<l.length
  ·by_cases h2:i∈ps
   ·rw[if_pos ⟨h1,h2⟩,if_pos ⟨h1,wV _ h2⟩]
   ·rw[if_neg (fun h=>h2 h.2)];by_cases h3:p=i
    ·subst h3;rw[if_pos rfl,if_pos h1,if_pos ⟨h1,wU⟩]
    ·rw[if_neg h3,if_neg (fun h=>by rcases yG.1 h.2 with e|e;exact h3 e.symm;exact h2 e)]
  ·rw[if_neg (show ¬(i<l.length∧i∈ps) from fun h=>h1 h.1),if_neg (show ¬(i<l.length∧i∈p::ps) from fun h=>h1 h.1)];by_cases h3:p=i
   ·subst h3;rw[if_pos rfl,if_neg h1,yH (by omega)]
   ·rw[if_neg h3]
end
theorem vu{i:Nat}{x:Int}(h:l[i]?=some x):(ff l)[i]?=some (F.mk (x.toNat%32) (xD _ (by decide))):=by unfold ff;rw[zL,h];rfl
theorem GP{ps:List Nat}(h:∀i x,i ∉ ps→l[i]?=some x→0≤x∧x<32):sG 0 l ps=wI (sG 0 (ff l) ps):=by
 apply wT;intro i;unfold wI;rw[zL,so,so,cE];by_cases h1:i<l.length∧i∈ps
 ·rw[if_pos h1,if_pos h1];rfl
 ·rw[if_neg h1,if_neg h1];rcases zV i l.length with hi|hi
  ·have hx:=zW hi;obtain⟨a,b⟩:=h i _ (fun hm=>h1 ⟨hi,hm⟩) hx;rw[hx,vu hx];show some _=some ((F.n (F.mk _ _):Nat):Int)
   rw[F.n_mk];congr 1
   omega
  ·rw[yH hi,yH (by rw[cE];exact hi)];rfl
theorem BQ{wd:List F}{ps:List Nat}{xs:List F}{p:Nat}{x:F}(hl:ps.length=xs.length)(hp:p ∉ ps)(h0:wd.getD p 0=0):F.addAt wd (ps++[p]) (xs++[x])=(F.addAt wd ps xs).set p x:=by rw[oW _ _ _ _ _ hl,yD,F.addAt_off ps xs wd hp,←yD,h0,F.zero_add]
section
variable {base eS eI p:Nat} {w0 w w':World} {v v':Value} {ls:List (List Int)}
theorem mZ.push{u:Value}(h:mZ base eS eI w0 v ls)(hx:ab w0 w)(hb:base≤w0.heap.size)(hu:w.ownsRow w0.heap.size eI 1 u l.length (l.map (Value.int .i64)))(hne:eS≠eI){us:List Value}(hus:w0.ownsRow base eS 1 v ls.length us)(hg:w.grownBy w' v.ownBlock)(h':w'.ownsRow base eS 1 v' (ls.length+1) (us++[u])) :
  mZ base eS eI w' v' (ls++[l]):=by
 obtain⟨us0,a,b,c,d⟩:=h;obtain rfl:=ph b hus;have b1:=ac b hx;have keep:∀{b0:Nat} {z:Value} {n:Nat} {xs:List Value},w.ownsRow b0 eI 1 z n xs→w'.ownsRow b0 eI 1 z n xs:=fun hz =>aE hz hg (fun k hk=>bE hz b1 (Ne.symm hne) k hk)
 have at0:∀(j:Nat) (y:Value),(us0++[u])[j]?=some y→(j<ls.length∧us0[j]?=some y)∨(j=ls.length∧y=u):=by
  intro j y hy;rcases zV j ls.length with hj|hj
  ·rw[zH (by omega)]at hy;exact .inl ⟨hj,hy⟩
  ·rw[yT (by omega)]at hy;have:j-us0.length=0:=by
    rcases xW (j-us0.length) with h|h
    ·exact h
    ·rw[yH (by show 1≤_;exact h)]at hy;cases hy
   rw[this]at hy;exact .inr ⟨by omega,by simpa using hy.symm⟩
 have low:∀(j:Nat) (y:Value) (k:Nat),us0[j]?=some y→y.ownBlock=some k→k<w0.heap.size:=fun j y k hy hk=>by
  have hj:j<ls.length:=by rw[←a];exact (zY.1 hy).1
  exact ((c j y _ hy (zW hj)).lt k hk).2
 refine⟨us0++[u],by simp[a],by simpa using h',fun j y m hy hm=>?_,fun i j y y' k hij hy hy' hk=>?_⟩
 ·rcases at0 j y hy with ⟨hj,hy⟩|⟨rfl,rfl⟩
  ·rw[zH hj]at hm;exact keep (ac (c j y m hy hm) hx)
  ·rw[yT (zX _),Nat.sub_self]at hm;obtain rfl:l=m:=by simpa using hm
   exact kP (keep hu) hb
 ·rcases at0 i y hy with ⟨hi,hz⟩|⟨hi,hz⟩
  ·rcases at0 j y' hy' with ⟨hj,hz'⟩|⟨hj,hz'⟩
   ·exact d i j y y' k hij hz hz' hk
   ·intro e;have h1:=low i y k hz hk;rw[hz']at e;have h2:=ar hu k e;omega
  ·rcases at0 j y' hy' with ⟨hj,hz'⟩|⟨hj,hz'⟩
   ·intro e;have h1:=low j y' k hz' e;rw[hz]at hk;have h2:=ar hu k hk;omega
   ·exact absurd (hi.trans hj.symm) hij
end
end Go.Proofs.YtjgfgdcaocbfhaaGreat

