import Derived.Test.YtkaajgoeahahpaaGreatDoorH5
import Derived.Laws.CopyOwn
set_option linter.all false
set_option maxRecDepth 100000
set_option maxHeartbeats 0
namespace Go.Proofs.YtkaajgoeahahpaaGreatDoor
open Go.Value renaming int→C,slice→E
open Go.IntKind renaming i64→D
open Go.RowKit _root_.Go.Proofs.Tryz
variable {base i k n p q:Nat} {w:World} {c f g v x:Int} {l:List Int} {ps:List Nat}
theorem En(v:Value)(l:List Int)(w:World)(hT:cK w)(hI:ak p w v l) :
  Calls prog 91 #[v] w fun e w'=>∃A m c,e=.returned (.tuple #[E A m c,C D (mZ l)])/\m=(jI l).length/\m<=c/\c<=9223372036854775807/\w'.ownsRow w.heap.size 3 1 (E A m c) m ((jI l).map (Value.int .i64))/\ab w w' :=
 (C5 v l w hT hI).mono fun e w' ⟨v',he,ho,hx⟩=>by obtain⟨A,c,rfl,h1,h2⟩:=jD ho;exact⟨A,_,c,he,rfl,h1,h2,ho,hx⟩
theorem Ja{d:List F}(h1:1<=d.length)(h9:d.length<=9):jI (wI d)=wI (pQ d)/\mZ (wI d)=0:=by
 have:eV (wI d)=true:=BO (by rw[aT];exact h1) (by rw[aT];exact h9) (by intro x hx;unfold wI at hx;obtain⟨c,_,rfl⟩:=zF.1 hx;have:=c.lt;omega)
 unfold jI mZ;rw[this,tP];exact⟨rfl,rfl⟩
theorem Cn(cw:List F)(i:Nat):(wI cw).getD i 0=((cw.getD i 0).n:Int):=by unfold wI;rw[xU,xU,zP];cases cw[i]?<;>rfl
theorem JA(cw:List F)(k:Nat):dY (wI cw) k=[]:=by rw[List.eq_nil_iff_forall_not_mem];intro i hi;have:=(kW.1 hi).2;rw[Cn]at this;omega
theorem Fv{cw:List F}(hc:F.Code cw):pn (wI cw) cw 0:=by refine⟨by rw[aT],hc,?_,by rw[JA];decide⟩;unfold fj;rw[tP,List.length_eq_zero_iff,List.filter_eq_nil_iff];intro i _;simp
theorem E7{cw:List F}(h7:7<=cw.length)(h15:cw.length<=15):cD (-1) (wI cw)=true:=mO (by rw[aT];exact h7) (by rw[aT];exact h15) (by intro x hx;unfold wI at hx;obtain⟨c,_,rfl⟩:=zF.1 hx;have:=c.lt;omega)
theorem qq{v:Value}(h:w.ownsRow base 3 1 v n (l.map (Value.int .i64)))(hb:∀x∈l,aU x)(hl:l.length<=9223372036854775807):ak w.heap.size w v l :=
 ak.of_own' (p:=w.heap.size) (e:=3) h (fun e=>by have:=(h.lt _ e).2;omega) hb hl
def GZ(n:Int):Bool:=decide (0<=n/\n<32)
def dj(p c g v:Int):Bool:=decide ((0<=p/\p<32)/\(0<=g/\g<32)/\(0<=v/\v<32)/\0<=c/\c<=9999)
theorem ju{p:Int}:dj p c g v=true↔(0<=p/\p<32)/\(0<=g/\g<32)/\(0<=v/\v<32)/\0<=c/\c<=9999:=by unfold dj;exact decide_eq_true_iff
theorem nQ(n:Int)(w:World) :
  Calls prog 177 #[C D n] w fun e w'=>e=.returned (.bool (GZ n))/\w=w':=by
 go_enter func177,ntmps177
 go_wp2
 all_goals (go_ret;exact⟨aa (by first|(simp[GZ];omega)|(rw[yE];simp[GZ];omega)),rfl⟩)
theorem eE(n:Int)(w:World)(h:0<=n/\n<32) :
  Calls prog 177 #[C D n] w fun e w'=>e=.returned (.bool true)/\w=w' :=
 (nQ n w).mono fun _ _ ⟨he,hw⟩=>⟨he.trans (aa (by simp[GZ,h])),hw⟩
theorem kU(n:Int)(w:World)(h:¬(0<=n/\n<32)) :
  Calls prog 177 #[C D n] w fun e w'=>e=.returned (.bool false)/\w=w' :=
 (nQ n w).mono fun _ _ ⟨he,hw⟩=>⟨he.trans (aa (by simp only[GZ];exact decide_eq_false h)),hw⟩
theorem rG(n m:Int)(w:World) :
  Calls prog 157 #[C D n,C D m] w fun e w'=>e=.returned (.bool (decide (0<=n/\n<=m)))/\w=w':=by
 go_enter func157,ntmps157
 go_wp2
 all_goals (go_ret;exact⟨aa (by first|(simp;omega)|(rw[yE];simp;omega)),rfl⟩)
theorem dw(n m:Int)(w:World)(h:0<=n/\n<=m) :
  Calls prog 157 #[C D n,C D m] w fun e w'=>e=.returned (.bool true)/\w=w' :=
 (rG n m w).mono fun _ _ ⟨he,hw⟩=>⟨he.trans (aa (decide_eq_true h)),hw⟩
theorem lw(n m:Int)(w:World)(h:¬(0<=n/\n<=m)) :
  Calls prog 157 #[C D n,C D m] w fun e w'=>e=.returned (.bool false)/\w=w' :=
 (rG n m w).mono fun _ _ ⟨he,hw⟩=>⟨he.trans (aa (decide_eq_false h)),hw⟩
theorem pG(p c g v:Int)(w:World) :
  Calls prog 125 #[.agg #[C D p,C D c,C D g,C D v]] w fun e w'=>e=.returned (.bool (dj p c g v))/\ab w w':=by
 by_cases hp:0<=p/\p<32;rotate_left
 ·have HB:Hid (dj p c g v=false):=by show _=_;unfold dj;exact decide_eq_false (by omega)
  go_enter func125,ntmps125
  go_wp2_with fail;refine (kU p _ hp).mono ?_;rintro r w1 ⟨rfl,rfl⟩;go_wp2_with fail;go_ret
  exact⟨aa HB.out.symm,(zE _).alloc _⟩
 by_cases hg:0<=g/\g<32;rotate_left
 ·have HB:Hid (dj p c g v=false):=by show _=_;unfold dj;exact decide_eq_false (by omega)
  go_enter func125,ntmps125
  go_wp2_with fail;refine (eE p _ hp).mono ?_;rintro r w1 ⟨rfl,rfl⟩;go_wp2_with fail;refine (kU g _ hg).mono ?_;rintro r w1 ⟨rfl,rfl⟩;go_wp2_with fail;go_ret
  exact⟨aa HB.out.symm,(zE _).alloc _⟩
 by_cases hv:0<=v/\v<32;rotate_left
 ·have HB:Hid (dj p c g v=false):=by show _=_;unfold dj;exact decide_eq_false (by omega)
  go_enter func125,ntmps125
  go_wp2_with fail;refine (eE p _ hp).mono ?_;rintro r w1 ⟨rfl,rfl⟩;go_wp2_with fail;refine (eE g _ hg).mono ?_;rintro r w1 ⟨rfl,rfl⟩;go_wp2_with fail;refine (kU v _ hv).mono ?_;rintro r w1 ⟨rfl,rfl⟩;go_wp2_with fail;go_ret
  exact⟨aa HB.out.symm,(zE _).alloc _⟩
 have HB:Hid (dj p c g v=(decide (0<=c)&&decide (c<=9999))):=by show _=_;unfold dj;rw[yE];simp;omega
 go_enter func125,ntmps125
 go_wp2_with fail;refine (eE p _ hp).mono ?_;rintro r w1 ⟨rfl,rfl⟩;go_wp2_with fail;refine (eE g _ hg).mono ?_;rintro r w1 ⟨rfl,rfl⟩;go_wp2_with fail;refine (eE v _ hv).mono ?_;rintro r w1 ⟨rfl,rfl⟩;go_wp2_with fail;all_goals (go_ret;exact⟨aa (by rw[HB.out];first|(simp;omega)|(rw[yE];simp;omega)),(zE _).alloc _⟩)
theorem jJ(p c g v:Int)(w:World) :
  Calls prog 111 #[.agg #[C D p,C D c,C D g,C D v]] w fun e w'=>e=.returned (.bool (dj p c g v))/\ab w w':=by
 by_cases hp:0<=p/\p<=31;rotate_left
 ·have HB:Hid (dj p c g v=false):=by show _=_;unfold dj;exact decide_eq_false (by omega)
  go_enter func111,ntmps111
  go_wp2_with fail;refine (lw p 31 _ hp).mono ?_;rintro r w1 ⟨rfl,rfl⟩;go_wp2_with fail;go_ret
  exact⟨aa HB.out.symm,(zE _).alloc _⟩
 by_cases hg:0<=g/\g<=31;rotate_left
 ·have HB:Hid (dj p c g v=false):=by show _=_;unfold dj;exact decide_eq_false (by omega)
  go_enter func111,ntmps111
  go_wp2_with fail;refine (dw p 31 _ hp).mono ?_;rintro r w1 ⟨rfl,rfl⟩;go_wp2_with fail;refine (lw g 31 _ hg).mono ?_;rintro r w1 ⟨rfl,rfl⟩;go_wp2_with fail;go_ret
  exact⟨aa HB.out.symm,(zE _).alloc _⟩
 by_cases hv:0<=v/\v<=31;rotate_left
 ·have HB:Hid (dj p c g v=false):=by show _=_;unfold dj;exact decide_eq_false (by omega)
  go_enter func111,ntmps111
  go_wp2_with fail;refine (dw p 31 _ hp).mono ?_;rintro r w1 ⟨rfl,rfl⟩;go_wp2_with fail;refine (dw g 31 _ hg).mono ?_;rintro r w1 ⟨rfl,rfl⟩;go_wp2_with fail;refine (lw v 31 _ hv).mono ?_;rintro r w1 ⟨rfl,rfl⟩;go_wp2_with fail;go_ret
  exact⟨aa HB.out.symm,(zE _).alloc _⟩
 by_cases hc:0<=c/\c<=9999
 ·have HB:Hid (dj p c g v=true):=by show _=_;unfold dj;exact decide_eq_true (by omega)
  go_enter func111,ntmps111
  go_wp2_with fail;refine (dw p 31 _ hp).mono ?_;rintro r w1 ⟨rfl,rfl⟩;go_wp2_with fail;refine (dw g 31 _ hg).mono ?_;rintro r w1 ⟨rfl,rfl⟩;go_wp2_with fail;refine (dw v 31 _ hv).mono ?_;rintro r w1 ⟨rfl,rfl⟩;go_wp2_with fail;refine (dw c 9999 _ hc).mono ?_;rintro r w1 ⟨rfl,rfl⟩;go_wp2_with fail;go_ret
  exact⟨aa HB.out.symm,(zE _).alloc _⟩
 ·have HB:Hid (dj p c g v=false):=by show _=_;unfold dj;exact decide_eq_false (by omega)
  go_enter func111,ntmps111
  go_wp2_with fail;refine (dw p 31 _ hp).mono ?_;rintro r w1 ⟨rfl,rfl⟩;go_wp2_with fail;refine (dw g 31 _ hg).mono ?_;rintro r w1 ⟨rfl,rfl⟩;go_wp2_with fail;refine (dw v 31 _ hv).mono ?_;rintro r w1 ⟨rfl,rfl⟩;go_wp2_with fail;refine (lw c 9999 _ hc).mono ?_;rintro r w1 ⟨rfl,rfl⟩;go_wp2_with fail;go_ret
  exact⟨aa HB.out.symm,(zE _).alloc _⟩
def gK(p c g v:Int):List Int:=[p,c/1024,c/32%32,c%32,g,v]
def Ic(p c g v:Int):List Int:=if dj p c g v then gK p c g v else []
def Dn(p c g v:Int):Int:=if dj p c g v then 0 else 2
def Gt(p c g v:Int)(w:World)(e:Ending)(w':World):Prop:=∃A n cc k,e=.returned (.tuple #[E A n cc,C D k])/\k=Dn p c g v/\ak w'.heap.size w' (E A n cc) (Ic p c g v)/\ab w w'
theorem BZ{p:Int}(h:dj p c g v=true):∀x∈gK p c g v,0<=x/\x<32:=by intro x hx;have:=ju.1 h;unfold gK at hx;simp only[yM,wL,or_false]at hx;omega
theorem zr{p:Int}(h:dj p c g v=true):∀x∈gK p c g v,aU x:=fun x hx=>by have:=BZ h x hx;constructor<;>omega
theorem n9{p:Int}(h:dj p c g v=true):Ic p c g v=gK p c g v/\Dn p c g v=0:=by unfold Ic Dn;rw[h];exact⟨rfl,rfl⟩
theorem tM{p:Int}(h:dj p c g v=false):Ic p c g v=[]/\Dn p c g v=2:=by unfold Ic Dn;rw[h];exact⟨rfl,rfl⟩
theorem ak.lits(l:List Int)(t:TypeId)(hb:∀x∈l,aU x)(hl:l.length<=9223372036854775807):ak (w.alloc (.cells (l.map (Value.int .i64)).toArray t)).heap.size (w.alloc (.cells (l.map (Value.int .i64)).toArray t)) (E (some ⟨w.heap.size,0,none⟩) l.length l.length) l :=
 ⟨_,_,rfl,zX _,by omega,hl,hb,fun k x hx=>⟨w.heap.size,0,rfl,by simp,by rw[yV,cell_of_row _ _ k _ t (0,0) (heap_alloc_new w _)];simp[hx]⟩⟩
theorem py(p c g v:Int)(w:World) :
  Calls prog 90 #[.agg #[C D p,C D c,C D g,C D v]] w (Gt p c g v w):=by
 rcases yS (dj p c g v) with hb|hb
 ·obtain⟨⟨hp1,hp2⟩,⟨hg1,hg2⟩,⟨hv1,hv2⟩,hc1,hc2⟩:=ju.1 hb;obtain⟨s1,s2⟩:=n9 hb;have S1:=zZ s1;have S2:=zZ s2;have HM:=zZ (zr hb);clear s1 s2;obtain⟨w0,hw0⟩:=nm (w.alloc (.cells #[C D p,C D c,C D g,C D v] 45));have cc:=fun i=>cell_of_row (w:=w.alloc (.cells #[C D p,C D c,C D g,C D v] 45)) w.heap.size i _ _ _ (heap_alloc_new w _);rw[<-hw0]at cc;have c0:=cc 0;have c1:=cc 1;have c2:=cc 2;have c3:=cc 3;simp at c0 c1 c2 c3;have HE:Hid (ab w w0):=by rw[hw0];exact (zE _).alloc _
  clear cc;go_enter func90,ntmps90
  go_wp2_with fail;rw[<-hw0];clear hw0;refine (pG p c g v _).mono ?_;rintro r w1 ⟨rfl,hx⟩;rw[hb];replace c0:=hx.cell c0;replace c1:=hx.cell c1;replace c2:=hx.cell c2;replace c3:=hx.cell c3;have HX:=zZ (HE.out.trans hx);clear hx HE;go_wp2_with fail;go_ret2
  refine⟨_,_,_,_,rfl,S2.out.symm,?_,HX.out.alloc _⟩;rw[S1.out];exact ak.lits (gK p c g v) 3 HM.out (by unfold gK;simp)
 ·obtain⟨s1,s2⟩:=tM hb;have S1:=zZ s1;have S2:=zZ s2;clear s1 s2;go_enter func90,ntmps90
  go_wp2_with fail;refine (pG p c g v _).mono ?_;rintro r w1 ⟨rfl,hx⟩;rw[hb];have HX:=zZ hx;clear hx;go_wp2_with fail;go_ret2
  exact⟨_,_,_,_,rfl,S2.out.symm,by rw[S1.out];exact ak.nil _ _,ab.trans ((zE _).alloc _) HX.out⟩
theorem tx(p c g v:Int)(w:World) :
  Calls prog 101 #[.agg #[C D p,C D c,C D g,C D v]] w (Gt p c g v w):=by
 rcases yS (dj p c g v) with hb|hb
 ·obtain⟨⟨hp1,hp2⟩,⟨hg1,hg2⟩,⟨hv1,hv2⟩,hc1,hc2⟩:=ju.1 hb;obtain⟨s1,s2⟩:=n9 hb;have S1:=zZ s1;have S2:=zZ s2;have HM:=zZ (zr hb);clear s1 s2;obtain⟨w0,hw0⟩:=nm (w.alloc (.cells #[C D p,C D c,C D g,C D v] 45));have cc:=fun i=>cell_of_row (w:=w.alloc (.cells #[C D p,C D c,C D g,C D v] 45)) w.heap.size i _ _ _ (heap_alloc_new w _);rw[<-hw0]at cc;have c0:=cc 0;have c1:=cc 1;have c2:=cc 2;have c3:=cc 3;simp at c0 c1 c2 c3;have HE:Hid (ab w w0):=by rw[hw0];exact (zE _).alloc _
  clear cc;go_enter func101,ntmps101
  go_wp2_with fail;rw[<-hw0];clear hw0;refine (jJ p c g v _).mono ?_;rintro r w1 ⟨rfl,hx⟩;rw[hb];replace c0:=hx.cell c0;replace c1:=hx.cell c1;replace c2:=hx.cell c2;replace c3:=hx.cell c3;have HX:=zZ (HE.out.trans hx);clear hx HE;go_wp2_with fail;go_ret2
  refine⟨_,_,_,_,rfl,S2.out.symm,?_,HX.out.alloc _⟩;rw[S1.out];exact ak.lits (gK p c g v) 3 HM.out (by unfold gK;simp)
 ·obtain⟨s1,s2⟩:=tM hb;have S1:=zZ s1;have S2:=zZ s2;clear s1 s2;go_enter func101,ntmps101
  go_wp2_with fail;refine (jJ p c g v _).mono ?_;rintro r w1 ⟨rfl,hx⟩;rw[hb];have HX:=zZ hx;clear hx;go_wp2_with fail;go_ret2
  exact⟨_,_,_,_,rfl,S2.out.symm,by rw[S1.out];exact ak.nil _ _,ab.trans ((zE _).alloc _) HX.out⟩
def Dj(v u:Value):Prop:=∀i,v.ownBlock=some i->u.ownBlock≠some i
theorem Dj.symm{v u:Value}(h:Dj v u):Dj u v:=fun i hu hv=>h i hv hu
theorem qy{A:Option Addr}{c:Nat}{f:List F}(h:ak p w (E A n c) (wI f))(hk:k<n):∃b off,A=some ⟨b,off,none⟩/\w.cell? ⟨b,off+k,none⟩=some (C D ((f.getD k 0).n:Int)):=by obtain⟨b,off,x,ha,hc,hx,_⟩:=h.at_ hk;refine⟨b,off,ha,?_⟩;rw[hc];have e:=Cn f k;rw[xU,hx.out]at e;rw[<-e];rfl
theorem Ji(x c:F)(l:List F):F.ev x (l++[c])=F.ev x l*x+c:=by
 rw[F.ev_app,show [c].length=1 from rfl,F.pwr_one];congr 1
 show c*F.pwr x 0+0=c
 show c*1+0=c
 rw[F.mul_one,F.add_zero]
theorem IQ{x:F}{l:List F}(h:k<l.length):F.ev x (l.take (k+1))=F.ev x (l.take k)*x+l.getD k 0:=by rw[List.take_add_one,F.getD_eq h];exact Ji _ _ _
def K2(f:Int)(l:List Int)(k:Nat):Prop:=∀i,i<k->f<=l.getD i 0/\l.getD i 0<32
theorem Hl(h:K2 f l n)(hl:l.length=n)(h7:7<=n)(h15:n<=15):cD f l=true :=
 mO (by omega) (by omega) fun x hx=>by obtain⟨i,hi,rfl⟩:=List.getElem_of_mem hx;have:=h i (by omega);rw[xU,zV hi]at this;exact this
theorem Bp(hx:l[k]?=some x)(h:x<f\/31<x):cD f l=false:=by
 rcases yS (cD f l) with hb|hb
 ·have:=(ew hb).2.2 x (zW hx);omega
 ·exact hb
theorem ze(h:l.length<7\/15<l.length):cD f l=false:=by
 rcases yS (cD f l) with hb|hb
 ·have:=ew hb;omega
 ·exact hb
theorem ia(v:Value)(l:List Int)(f:Int)(w:World)(hI:ak p w v l)(f1:-10<=f)(f2:f<=10) :
  Calls prog 153 #[v,C D f] w fun e w'=>e=.returned (.bool (cD f l))/\ab w w':=by
 obtain⟨A,n,c,rfl,hnc,hc,hnn,HL⟩:=hI.open_;have HI:=zZ hI;clear hI;by_cases h7:n<7
 ·go_enter func153,ntmps153
  go_wp2_with fail;go_ret
  exact⟨aa (ze (.inl (by rw[HL.out];exact h7))).symm,zE _⟩
 by_cases h15:15<n
 ·go_enter func153,ntmps153
  go_wp2_with fail;go_ret
  exact⟨aa (ze (.inr (by rw[HL.out];exact h15))).symm,zE _⟩
 go_enter func153,ntmps153
 go_wp2_with fail;go_loopw [5] (fun s5 wr=>∃(k:Nat),s5=C D (k:Int)/\k<=n/\Hid (K2 f l k/\ab w wr)) (fun i _=>n-(intOf i).toNat)
 case atStart=>exact⟨0,rfl,by omega,fun i hi=>by omega,zE _⟩
 case round =>
  obtain⟨k,rfl,hk,HK⟩:=hrel;by_cases hkn:k<n
  ·obtain⟨b,off,x,rfl,cx,hx,hx1,hx2⟩:=(HI.out.ext HK.out.2).at_ hkn;by_cases hlo:x<f
   ·go_wp2_with fail;go_ret
    exact⟨aa (Bp hx.out (.inl hlo)).symm,HK.out.2⟩
   by_cases hhi:31<x
   ·go_wp2_with fail;go_ret
    exact⟨aa (Bp hx.out (.inr hhi)).symm,HK.out.2⟩
   go_wp2_with fail;go_roundw
   case rel =>
    refine⟨k+1,by go_num,by omega,fun i hi=>?_,HK.out.2⟩;rcases zU i k with h|h
    ·exact HK.out.1 i h
    ·obtain rfl:i=k:=by omega
     rw[xU,hx.out];show f<=x/\x<32
     omega
   case measure=>simp[intOf];omega
  ·obtain rfl:k=n:=by omega
   go_wp2_with fail;go_ret
   exact⟨aa (Hl HK.out.1 HL.out (by omega) (by omega)).symm,HK.out.2⟩
theorem yz(v:Value)(wd:List F)(j:Nat)(w:World)(hI:ak p w v (wI wd))(hj:j<=1000) :
  Calls prog 189 #[v,C D (j:Int)] w fun e w'=>e=.returned (C D ((F.ev (F.gp j) wd).n:Int))/\ab w w':=by
 obtain⟨A,n,c,rfl,hnc,hc,hnn,HL0⟩:=hI.open_;have HL:Hid (wd.length=n):=by have:=HL0.out;rw[aT]at this;exact this
 have HI:=zZ hI;clear hI HL0;go_enter func189,ntmps189
 go_wp2_with fail;refine (yr j _ (by omega)).mono ?_;rintro e w1 ⟨rfl,hx1⟩;replace HI:=zZ (HI.out.ext hx1);replace hx1:=zZ hx1;generalize hgx:F.gp j=x;go_wp2_with fail;go_loopw [5,7] (fun s5 s7 wr=>∃(k:Nat) (y:F),s5=C D (y.n:Int)/\s7=C D (k:Int)/\k<=n/\Hid (y=F.ev x (wd.take k)/\ab w1 wr)) (fun _ i _=>n-(intOf i).toNat)
 case atStart=>exact⟨0,0,rfl,rfl,by omega,rfl,zE _⟩
 case round =>
  obtain⟨k,y,rfl,rfl,hk,HK⟩:=hrel;by_cases hkn:k<n
  ·obtain⟨b,off,rfl,cx⟩:=qy (HI.out.ext HK.out.2) hkn;have hxor:=pD (y*x) (wd.getD k 0);have HY:Hid (y*x+wd.getD k 0=F.ev x (wd.take (k+1))):=by show _=_;rw[IQ (by rw[HL.out];exact hkn),HK.out.1]
   generalize wd.getD k 0=d at *
   have HQ:Hid (∀n,Calls prog 191 #[C D (y.n:Int),C D (x.n:Int)] (wr.drewN n) fun e w'=>e=.returned (C D ((y*x).n:Int))/\∃n',w'=(wr.drewN n).drewN n'):=fun n=>(CB y x _).mono fun _ _ ⟨h1,h2⟩=>⟨h1,0,by rw[h2];rfl⟩
   go_wp2_with fail;go_quiet ((go_at_call 191;exact Calls.quiet_of (HQ.out _)))
   go_wp2_with fail;go_roundw
   case rel=>exact⟨k+1,_,rfl,by go_num,by omega,HY.out,HK.out.2.drewN _⟩
   case measure=>simp[intOf];omega
  ·obtain rfl:k=n:=by omega
   have HY:Hid (y=F.ev x wd):=by have h:=HK.out.1;rw[xV (by rw[HL.out];omega)]at h;exact h
   go_wp2_with fail;go_ret
   exact⟨by rw[HY.out,hgx];rfl,hx1.out.trans HK.out.2⟩
def CH(wd:List F)(k:Nat):Prop:=∀j,1<=j->j<=k->F.ev (F.gp j) wd=0
theorem FF(hb:cD 0 l=true)(h:CH (bv l) 6):iG l=true:=by unfold iG;rw[hb,yK];exact (qG _).2 h
theorem Gi{j:Nat}(hb:cD 0 l=true)(h1:1<=j)(h6:j<=6)(h:F.ev (F.gp j) (bv l)≠0):iG l=false:=by
 rcases yS (iG l) with hc|hc
 ·unfold iG at hc;rw[hb,yK]at hc;exact absurd ((qG _).1 hc j h1 h6) h
 ·exact hc
theorem sg(v:Value)(l:List Int)(w:World)(hI:ak p w v l) :
  Calls prog 192 #[v] w fun e w'=>e=.returned (.bool (iG l))/\ab w w':=by
 have HI:=zZ hI;clear hI;rcases yS (cD 0 l) with hb|hb
 ·have HB:=zZ hb;have HW:=zZ (ww (ew hb).2.2);go_enter func192,ntmps192
  go_wp2_with fail;refine (ia _ l 0 _ HI.out (by omega) (by omega)).mono ?_;rintro e w1 ⟨rfl,hx1⟩;rw[hb];replace HI:=zZ (HI.out.ext hx1);replace hx1:=zZ hx1;clear hb;go_wp2_with fail;go_loopw [3] (fun s3 wr=>∃(k:Nat),s3=C D (k:Int)/\1<=k/\k<=7/\Hid (CH (bv l) (k-1)/\ab w1 wr)) (fun i _=>7-(intOf i).toNat)
  case atStart=>exact⟨1,rfl,by omega,by omega,fun j h1 h2=>by omega,zE _⟩
  case round =>
   obtain⟨k,rfl,hk1,hk7,HK⟩:=hrel;by_cases hk:k<=6
   ·go_upto_if 14 with (go_at_call 189;refine (yz _ (bv l) k _ (by rw[HW.out];exact HI.out.ext HK.out.2) (by omega)).mono ?_;rintro e w2 ⟨rfl,hx2⟩)
    have HX2:=zZ (HK.out.2.trans hx2);clear hx2;by_cases he:F.ev (F.gp k) (bv l)=0
    ·have HZ:Hid (CH (bv l) (k+1-1)):=by
      intro j h1 h2;rcases zU j k with h|h
      ·exact HK.out.1 j h1 (by omega)
      ·obtain rfl:j=k:=by omega
       exact he
     rw[he];have hz0:((0:F).n:Int)=0:=rfl;rw[hz0];clear he hz0;go_wp2_with fail;go_roundw
     case rel=>exact⟨k+1,by go_num,by omega,by omega,HZ.out,HX2.out⟩
     case measure=>simp[intOf];omega
    ·have HC:Hid (iG l=false):=Gi HB.out hk1 hk he;have hn:(F.ev (F.gp k) (bv l)).n≠0:=fun e=>he (F.ext e);have hlt:=(F.ev (F.gp k) (bv l)).lt;generalize F.ev (F.gp k) (bv l)=y at *
     clear he;go_wp2_with fail;go_ret
     exact⟨aa HC.out.symm,hx1.out.trans HX2.out⟩
   ·have HC:Hid (iG l=true):=FF HB.out (by rw[show 6=k-1 by omega];exact HK.out.1);go_wp2_with fail;go_ret
    exact⟨aa HC.out.symm,hx1.out.trans HK.out.2⟩
 ·have HF:Hid (iG l=false):=by show _=_;unfold iG;rw[hb];rfl
  go_enter func192,ntmps192
  go_wp2_with fail;refine (ia _ l 0 _ HI.out (by omega) (by omega)).mono ?_;rintro e w1 ⟨rfl,hx1⟩;rw[hb];go_wp2_with fail;go_ret
  exact⟨aa HF.out.symm,hx1⟩
def xl{α:Type}(z:α)(l:List α)(ps:List Nat):List α:=ps.foldl (fun a p=>a.set p z) l
section
variable {α:Type} {z:α}
theorem uj(l:List α)(ps:List Nat):(xl z l ps).length=l.length:=by
 induction ps generalizing l with
 |nil=>rfl
 |cons p ps ih=>show (xl z (l.set p z) ps).length=_;rw[ih,yF]
theorem F1(l:List α)(ps:List Nat)(p:Nat):xl z l (ps++[p])=(xl z l ps).set p z:=by unfold xl;rw[uR];rfl
theorem vt(l:List α)(ps:List Nat)(i:Nat):(xl z l ps)[i]?=if i<l.length/\i∈ps then some z else l[i]?:=by
 induction ps generalizing l with
 |nil=>rw[if_neg (by simp)];rfl
 |cons p ps ih =>
  show (xl z (l.set p z) ps)[i]?=_
  rw[ih,yF,yD];by_cases h1:i<l.length
  ·by_cases h2:i∈ps
   ·rw[if_pos ⟨h1,h2⟩,if_pos ⟨h1,vN _ h2⟩]
   ·rw[if_neg (fun h=>h2 h.2)];by_cases h3:p=i
    ·subst h3;rw[if_pos rfl,if_pos h1,if_pos ⟨h1,vM⟩]
    ·rw[if_neg h3,if_neg (fun h=>by rcases yM.1 h.2 with e|e;exact h3 e.symm;exact h2 e)]
  ·rw[if_neg (show ¬(i<l.length/\i∈ps) from fun h=>h1 h.1),if_neg (show ¬(i<l.length/\i∈p::ps) from fun h=>h1 h.1)];by_cases h3:p=i
   ·subst h3;rw[if_pos rfl,if_neg h1,zC (by omega)]
   ·rw[if_neg h3]
end
theorem Cq(h:l[i]?=some x):(bv l)[i]?=some (F.mk (x.toNat%32) (xI _ (by decide))):=by unfold bv;rw[zP,h];rfl
theorem Ks(h:∀i x,i ∉ ps->l[i]?=some x->0<=x/\x<32):xl 0 l ps=wI (xl 0 (bv l) ps):=by
 apply xW;intro i;unfold wI;rw[zP,vt,vt,bt];by_cases h1:i<l.length/\i∈ps
 ·rw[if_pos h1,if_pos h1];rfl
 ·rw[if_neg h1,if_neg h1];rcases zU i l.length with hi|hi
  ·have hx:=zV hi;obtain⟨a,b⟩:=h i _ (fun hm=>h1 ⟨hi,hm⟩) hx;rw[hx,Cq hx];show some _=some ((F.n (F.mk _ _):Nat):Int)
   rw[F.n_mk];congr 1
   omega
  ·rw[zC hi,zC (by rw[bt];exact hi)];rfl
theorem EM{wd:List F}{xs:List F}{x:F}(hl:ps.length=xs.length)(hp:p ∉ ps)(h0:wd.getD p 0=0):F.addAt wd (ps++[p]) (xs++[x])=(F.addAt wd ps xs).set p x:=by rw[mB _ _ _ _ _ hl,xU,F.addAt_off ps xs wd hp,<-xU,h0,F.zero_add]
section
variable {base eS eI p:Nat} {w0 w w':World} {v v':Value} {ls:List (List Int)}
theorem lT.push{u:Value}(h:lT base eS eI w0 v ls)(hx:ab w0 w)(hb:base<=w0.heap.size)(hu:w.ownsRow w0.heap.size eI 1 u l.length (l.map (Value.int .i64)))(hne:eS≠eI){us:List Value}(hus:w0.ownsRow base eS 1 v ls.length us)(hg:w.grownBy w' v.ownBlock)(h':w'.ownsRow base eS 1 v' (ls.length+1) (us++[u])) :
  lT base eS eI w' v' (ls++[l]):=by
 obtain⟨us0,a,b,c,d⟩:=h;obtain rfl:=rR b hus;have b1:=ao b hx;have keep:∀{b0:Nat} {z:Value} {n:Nat} {xs:List Value},w.ownsRow b0 eI 1 z n xs->w'.ownsRow b0 eI 1 z n xs:=fun hz =>aJ hz hg (fun k hk=>cA hz b1 (Ne.symm hne) k hk)
 have at0:∀(j:Nat) (y:Value),(us0++[u])[j]?=some y->(j<ls.length/\us0[j]?=some y)\/(j=ls.length/\y=u):=by
  intro j y hy;rcases zU j ls.length with hj|hj
  ·rw[yY (by omega)]at hy;exact .inl ⟨hj,hy⟩
  ·rw[yL (by omega)]at hy;have:j-us0.length=0:=by
    rcases vE (j-us0.length) with h|h
    ·exact h
    ·rw[zC (by show 1<=_;exact h)]at hy;cases hy
   rw[this]at hy;exact .inr ⟨by omega,by simpa using hy.symm⟩
 have low:∀(j:Nat) (y:Value) (k:Nat),us0[j]?=some y->y.ownBlock=some k->k<w0.heap.size:=fun j y k hy hk=>by
  have hj:j<ls.length:=by rw[<-a];exact (zY.1 hy).1
  exact ((c j y _ hy (zV hj)).lt k hk).2
 refine⟨us0++[u],by simp[a],by simpa using h',fun j y m hy hm=>?_,fun i j y y' k hij hy hy' hk=>?_⟩
 ·rcases at0 j y hy with ⟨hj,hy⟩|⟨rfl,rfl⟩
  ·rw[yY hj]at hm;exact keep (ao (c j y m hy hm) hx)
  ·rw[yL (zX _),vH]at hm;obtain rfl:l=m:=by simpa using hm
   exact gM (keep hu) hb
 ·rcases at0 i y hy with ⟨hi,hz⟩|⟨hi,hz⟩
  ·rcases at0 j y' hy' with ⟨hj,hz'⟩|⟨hj,hz'⟩
   ·exact d i j y y' k hij hz hz' hk
   ·intro e;have h1:=low i y k hz hk;rw[hz']at e;have h2:=aq hu k e;omega
  ·rcases at0 j y' hy' with ⟨hj,hz'⟩|⟨hj,hz'⟩
   ·intro e;have h1:=low j y' k hz' e;rw[hz]at hk;have h2:=aq hu k hk;omega
   ·exact absurd (hi.trans hj.symm) hij
end
theorem DR{G:Nat}{t:Nat}(h:w.heap[G]?=some (.cells (l.map (Value.int .i64)).toArray t (0,0)))(x:Int):(w.setCell ⟨G,i,none⟩ (C D x)).heap[G]?=some (.cells ((l.set i x).map (Value.int .i64)).toArray t (0,0)):=by have:=bn (i:=i) h (C D x);rw[List.setIfInBounds_toArray,<-wX]at this;exact this
theorem qm{M:Nat->Nat->F}{wd j:Nat}:((List.range j).map (F.rowI M wd)).length=j:=by simp
theorem Hf(M:Nat->Nat->F)(wd:Nat):(List.range 6).map (F.rowI M wd)=F.matI M wd:=rfl
theorem mU{G:Nat}{f:List F}(h:w.heap[G]?=some (.cells ((wI f).map (Value.int .i64)).toArray 3 (0,0)))(hl:f.length=n)(hb:base<=G)(hn:n<=1000000):eT base w (E (some ⟨G,0,none⟩) n n) f:=by subst hl;unfold eT;refine⟨by simp[wI],.inr ⟨G,f.length,_,by simp,hb,h,by simp,by unfold maxLen;omega,by simp[wI],?_⟩⟩;rw[xV (by simp[wI])]
theorem Fh(v:Value)(wd:List F)(j:Nat)(w:World)(hI:ak p w v (wI wd))(hj:j<=999) :
  Calls prog 189 #[v,C D ((j:Int)+1)] w fun e w'=>e=.returned (C D ((F.ev (F.gp (j+1)) wd).n:Int))/\ab w w':=by
 have h:=yz v wd (j+1) w hI (by omega);rw[show (((j+1:Nat)):Int)=(j:Int)+1 by omega]at h;exact h
theorem Il{c g:Nat}{L:List Int}(hx:L[i]?=some x)(h:w.ownsRow base 3 1 (E (some ⟨g,0,none⟩) (i+1) c) (i+1) ((L.take i).map (Value.int .i64)++[C D x])):w.ownsRow base 3 1 (E (some ⟨g,0,none⟩) (i+1) c) (i+1) ((L.take (i+1)).map (Value.int .i64)):=by rw[ax hx,yG];exact h
def JI(w:World)(wd:List F)(ps:List Nat)(n:Nat)(e:Ending)(w':World):Prop :=
 ∃(g cp:Nat) (cw:List F),e=.returned (.tuple #[E (some ⟨g,0,none⟩) n cp,.bool (iG (wI cw))])/\n<=cp/\cp<=9223372036854775807/\cw.length=n/\eT w.heap.size w' (E (some ⟨g,0,none⟩) n cp) cw/\ab w w' /\
  F.Off wd cw ps/\∀c,F.Off wd c ps->F.Code c->c=cw
theorem pa{q':Nat}(v vp:Value)(l:List Int)(ps:List Nat)(w:World)(hI:ak q w v l)(hP:ak q' w vp (fW ps))(hn1:1<=l.length)(hn:l.length<=31)(hd:ps.Nodup)(hlt:∀p∈ps,p<l.length)(h6:ps.length<=6)(hel:∀i x,i ∉ ps->l[i]?=some x->0<=x/\x<32) :
  Calls prog 143 #[v,vp] w (JI w (xl 0 (bv l) ps) ps l.length):=by
 have h0:=hI.re (q:=w.heap.size) (zX _);have h1:=hP.re (q:=w.heap.size) (zX _);have b0:0<=w.heap.size:=xL _;obtain⟨A,n,c,rfl,hnc,hc,hnn,HL⟩:=hI.open_;obtain⟨Ap,u,cp,rfl,hpc,hpp,hpn,HLp⟩:=hP.open_;have HU:Hid (ps.length=u):=by have:=HLp.out;rw[fd]at this;exact this
 have hu6:u<=6:=by have:=HU.out;omega
 have HI:=zZ h0;have HP:=zZ h1;have HD:=zZ hd;have HLT:Hid (∀p∈ps,p<n):=by intro p hp;have:=hlt p hp;rw[HL.out]at this;exact this
 rw[HL.out]at hn hn1;have HW:=zZ (Ks hel);have HWL:Hid ((xl 0 (bv l) ps).length=n):=by show _=_;rw[uj,bt];exact HL.out
 have HW0:Hid (∀p∈ps,(xl 0 (bv l) ps).getD p 0=0):=fun p hp=>by rw[xU,vt,if_pos ⟨by rw[bt];exact hlt p hp,hp⟩];rfl
 rw[HL.out];clear hI hP h0 h1 hd hlt h6 hel HLp;generalize hwd:xl 0 (bv l) ps=wd at *
 obtain⟨i0,hi0,hz0,hz1,hz2⟩:=info_parts Tryz.infoI;have hsz:(prog.info? 3).map (·.size)=some 1:=by kernel_rfl
 have hmkI:=lf n (by omega);obtain⟨b,o,z,rfl,-⟩:=HI.out.at_ (k:=0) (by omega);have HC0:Hid (∀j v,(l.map (Value.int .i64))[j]?=some v->(w.alloc (.cells (madeCells #[C D 0] n) 3)).cell? ((⟨b,o,none⟩:Addr).add j)=some v):=fun j v hj=>by
  rw[zP,yO]at hj;obtain⟨x,hx,rfl⟩:=hj;obtain⟨x',h1,h2,_⟩:=((HI.out.ext ((zE w).alloc (.cells (madeCells #[C D 0] n) 3))).cell_ (k:=j) (by rw[<-HL.out];exact (zY.1 hx).1))
  rw[h2.out]at hx;injection hx with hx;subst hx;have e:(⟨b,o,none⟩:Addr).add j=⟨b,o+j,none⟩:=by
   unfold Addr.add;by_cases hj:j=0
   ·subst hj;rfl
   ·rw[if_neg hj]
  rw[e];exact h1
 have HG0:Hid ((w.alloc (.cells (madeCells #[C D 0] n) 3)).heap[w.heap.size]?=some (.cells (List.replicate n (Value.int .i64 0)).toArray 3 (0,0))):=by
  have h:=heap_alloc_new w (.cells (madeCells #[C D 0] n) 3);have e:(madeCells #[Value.int .i64 0] n)=(List.replicate n (Value.int .i64 0)).toArray:=by rw[lA];simp[wI,F.n_zero]
  rw[<-e];exact h
 have HE0:=zZ ((zE w).alloc (.cells (madeCells #[C D 0] n) 3));go_enter func143,ntmps143
 go_upto_region 4 with (refine wpList_copy_splice rfl (.tmp 26) (.tmp 27) 22 22 rfl 3 underlying22 hsz (some ⟨w.heap.size,0,none⟩) (some ⟨b,o,none⟩) n n n c rfl rfl w.heap.size 0 (List.replicate n (C D 0)) 3 HG0.out (l.map (Value.int .i64)) (by rw[zJ,HL.out];simp) (fun _=>⟨rfl,_,rfl,HC0.out⟩) (by rw[zJ,HL.out];simp) (by simp[Value.oneCell']) w.heap.size w HE0.out (zX _) ?_;intro w2 hg2 hb2)
 replace hg2:Hid (w2.heap[w.heap.size]?=some (.cells ((xl 0 l (ps.take 0)).map (Value.int .i64)).toArray 3 (0,0))):=by have h:=hg2.out;rw[show splice (List.replicate n (Value.int .i64 0)) 0 (l.map (Value.int .i64))=l.map (Value.int .i64) from by simp[splice,HL.out]]at h;exact h
 replace hb2:=zZ (show ab w w2 from hb2);clear HC0 HG0 HE0 hmkI HI;generalize hG:w.heap.size=G at *
 have HGB:=zZ hG;clear hG;go_wp2_with fail;go_loopw [8] (fun s8 wr=>∃(k:Nat),s8=C D (k:Int)/\k<=u/\Hid (wr.heap[G]?=some (.cells ((xl 0 l (ps.take k)).map (Value.int .i64)).toArray 3 (0,0))/\ab w wr)) (fun i _=>u-(intOf i).toNat)
 case atStart=>exact⟨0,rfl,by omega,hg2.out,hb2.out⟩
 case round =>
  obtain⟨k,rfl,hk,HK⟩:=hrel;clear hg2 hb2;have HGr:=zZ HK.out.1;have HEr:=zZ HK.out.2;clear HK;by_cases hku:k<u
  ·have HPr:=zZ (HP.out.ext HEr.out);obtain⟨bp,op,z,rfl,-⟩:=HPr.out.at_ hku;obtain⟨z,hcz,HZ,-⟩:=HPr.out.cell_ hku;obtain⟨pl,hpl,rfl⟩:=oz HZ.out;have hpn':pl<n:=HLT.out pl (zW hpl);obtain⟨y,hy⟩:∃y,(xl 0 l (ps.take k))[pl]?=some y:=⟨_,zV (by rw[uj,HL.out];exact hpn')⟩
   have hcy:wr.cell? ⟨G,pl,none⟩=some (C D y):=ac HGr.out (by rw[List.getElem?_toArray,zP,hy];rfl);have hfz:=ae HGr.out pl;have HG4:=zZ (DR (i:=pl) HGr.out 0);rw[<-F1,show ps.take k++[pl]=ps.take (k+1) from by rw[List.take_add_one,hpl];rfl]at HG4;have HE4:=zZ (HEr.out.setCell (p:=⟨G,pl,none⟩) (by rw[HGB.out];exact zX _) (C D 0));clear hpl HZ hy HPr;go_wp2_with fail;go_roundw
   case rel=>exact⟨k+1,by go_num,by omega,HG4.out,HE4.out⟩
   case measure=>simp[intOf];omega
  ·obtain rfl:k=u:=by omega
   have HG1:Hid (wr.heap[G]?=some (.cells ((wI wd).map (Value.int .i64)).toArray 3 (0,0))):=by have h:=HGr.out;rw[xV (by rw[HU.out];exact zX _),HW.out]at h;exact h
   have HE1:=HEr;clear HGr HEr;obtain⟨W1,hW1⟩:=nm (wr:World);subst hW1;have hGW:G<W1.heap.size:=al HG1.out;have HPW:=zZ (HP.out.ext HE1.out);obtain⟨iS,hiS,hy0,hy1,hy2⟩:=info_parts Tryz.infoS;go_wp2_with fail;go_loopw [9,10] (fun s9 s10 wr=>∃(j:Nat) (A9:Option Addr) (c9:Nat),s9=E A9 j c9/\s10=C D ((j:Int)+1)/\j<=6/\j<=c9/\c9<=9223372036854775807/\Hid (lT W1.heap.size 22 3 wr (E A9 j c9) ((List.range j).map (F.rowI (F.sysM wd ps) (k+1)))/\ab W1 wr)) (fun _ j _=>7-(intOf j).toNat)
   case atStart=>exact⟨0,none,0,rfl,rfl,by omega,by omega,by omega,lT.nil _ _ _ _,zE _⟩
   case round =>
    obtain⟨j,A9,c9,rfl,rfl,hj,hj1,hj2,HK⟩:=hrel;have HM:=zZ HK.out.1;have HX:=zZ HK.out.2;clear HK;by_cases hj6:j<6
    ·obtain⟨wo,hwo⟩:=nm (wr:World);subst hwo;have hjl:decide ((j:Int)+1<=6)=true:=by simp;omega
     go_wp2_with fail;go_loopw [11,12] (fun s11 s12 wr=>∃(i:Nat) (A11:Option Addr) (c11:Nat),s11=E A11 i c11/\s12=C D (i:Int)/\i<=k/\i<=c11/\c11<=9223372036854775807/\Hid (wr.ownsRow wo.heap.size 3 1 (E A11 i c11) i (((F.rowI (F.sysM wd ps) (k+1) j).take i).map (Value.int .i64))/\ab wo wr)) (fun _ i _=>k-(intOf i).toNat)
     case atStart=>exact⟨0,none,0,rfl,rfl,by omega,by omega,by omega,yZ _ _ _ _,zE _⟩
     case round =>
      obtain⟨i,A11,c11,rfl,rfl,hi,hi1,hi2,HK⟩:=hrel;have HO:=zZ HK.out.1;have HY:=zZ HK.out.2;clear HK;by_cases hik:i<k
      ·have HPr:=zZ ((HPW.out.ext HX.out).ext HY.out);obtain⟨bp,op,z,rfl,-⟩:=HPr.out.at_ hik;obtain⟨z,hcz,HZ,-⟩:=HPr.out.cell_ hik;obtain⟨pl,hpl,rfl⟩:=oz HZ.out;have hpn':pl<n:=HLT.out pl (zW hpl);obtain⟨m,hm⟩:=nm ((j+1)*(n-1-pl):Nat);have hmb:m<=1000:=by
        have h1:(j+1)*(n-1-pl)<=6*31:=Nat.mul_le_mul (by omega) (by omega);omega
       have HRI:Hid ((F.rowI (F.sysM wd ps) (k+1) j)[i]?=some ((F.gp m).n:Int)):=by
        show _=_
        rw[F.rowI_at (by omega)];have e:ps.getD i 0=pl:=by rw[xU,hpl];rfl
        unfold F.sysM;rw[if_pos (by rw[HU.out];exact hik),HWL.out,e,<-hm]
       have hm':((j:Int)+1)*((n:Int)-1-(pl:Int))=(m:Int):=by rw[hm,Int.natCast_mul,show (((j+1:Nat)):Int)=(j:Int)+1 by omega,show (((n-1-pl:Nat)):Int)=(n:Int)-1-(pl:Int) by omega]
       clear hm hpl HZ HPr;go_upto_region 15 with (first
        |(at_builtin;refine wpList_append_lies _ rfl _ _ _ rfl wo.heap.size 3 i0 _ 1 8 underlying22 hi0 hz0 hz1 hz2 rfl (by omega) (E A11 i c11) i (((F.rowI (F.sysM wd ps) (k+1) j).take i).map (Value.int .i64)) (by rfl) (World.ownsRow.alloc HO1.out _) ⟨x1.heap.size,0,none⟩ 1 1 [C D ((F.gp m).n:Int)] (by rfl) (by rfl) (World.news_of_block (cs:=#[C D ((F.gp m).n:Int)]) (t:=3) (fr:=(0,0)) (heap_alloc_new x1 _)) (by simp[Value.oneCell']) (by omega) (by unfold maxLen;omega) (by omega) (by simp;omega) (x1.heap.size+1) (by simp) ?_;intro ga cga x2 hown hgrow hat hltg)
        |(go_at_call 188;refine (yr m _ (by omega)).mono ?_;rintro e x1 ⟨rfl,hx1⟩;have HO1:=zZ (ao HO.out hx1);have HY1:=zZ (HY.out.trans hx1);have hs1:wo.heap.size<=x1.heap.size:=HY1.out.size;clear hx1))
       have HO2:Hid (x2.ownsRow wo.heap.size 3 1 (E (some ⟨ga,0,none⟩) (i+1) cga) (i+1) (((F.rowI (F.sysM wd ps) (k+1) j).take (i+1)).map (Value.int .i64))):=by
        show World.ownsRow _ _ _ _ _ _ _
        rw[ax HRI.out,yG];exact hown
       have HY2:=zZ (ab.grown (HY1.out.alloc (.cells #[C D ((F.gp m).n:Int)] 3)) hgrow (fun t ht=>(by have:=aq HO1.out t ht;omega)));obtain⟨ca1,ca2⟩:=lG hown;clear hown hgrow hat hltg HO1 HY1 HO HY;go_wp2_with fail;go_roundw
       case rel=>exact⟨i+1,some ⟨ga,0,none⟩,cga,rfl,by go_num,by omega,ca1,ca2,HO2.out,HY2.out⟩
       case measure=>simp[intOf];omega
      ·obtain rfl:i=k:=by omega
       have HIG:Hid (ak (G+1) wr (E (some ⟨G,0,none⟩) n n) (wI wd)):=by have h:=mU (base:=G) ((HX.out.trans HY.out).blk HG1.out) HWL.out (zX _) (by omega);exact ak.of_own' (e:=3) h (by simp[Value.ownBlock]) (jQ _) (by rw[aT,HWL.out];omega)
       have HRK:Hid ((F.rowI (F.sysM wd ps) (i+1) j)[i]?=some ((F.ev (F.gp (j+1)) wd).n:Int)):=by
        show _=_
        rw[F.rowI_at (by omega)];unfold F.sysM;rw[if_neg (by rw[HU.out];omega)]
       obtain⟨us,hus1,hus2⟩:=HM.out.own;rw[qm]at hus1 hus2;have HUS:=zZ hus2;clear hus2 hus1;generalize hsv:F.ev (F.gp (j+1)) wd=sv at HRK;have hws:W1.heap.size<=wo.heap.size:=HX.out.size;go_upto_region 11 with (first
        |(at_builtin;refine wpList_append_lies _ rfl _ _ _ rfl W1.heap.size 22 iS _ 1 24 underlying77 hiS hy0 hy1 hy2 rfl (by omega) (E A9 j c9) j us (by rfl) (World.ownsRow.alloc HU2.out _) ⟨x2.heap.size,0,none⟩ 1 1 [E (some ⟨ga,0,none⟩) (i+1) cga] (by rfl) (by rfl) (World.news_of_block (cs:=#[E (some ⟨ga,0,none⟩) (i+1) cga]) (t:=22) (fr:=(0,0)) (heap_alloc_new x2 _)) (by simp[Value.oneCell']) (by omega) (by unfold maxLen;omega) (by omega) (by simp;omega) (x2.heap.size+1) (by simp) ?_;intro gr cgr x3 hown3 hgrow3 hat3 hltg3)
        |(at_builtin;refine wpList_append_lies _ rfl _ _ _ rfl wo.heap.size 3 i0 _ 1 8 underlying22 hi0 hz0 hz1 hz2 rfl (by omega) (E A11 i c11) i (((F.rowI (F.sysM wd ps) (i+1) j).take i).map (Value.int .i64)) (by rfl) (World.ownsRow.alloc HO1.out _) ⟨x1.heap.size,0,none⟩ 1 1 [C D (sv.n:Int)] (by rfl) (by rfl) (World.news_of_block (cs:=#[C D (sv.n:Int)]) (t:=3) (fr:=(0,0)) (heap_alloc_new x1 _)) (by simp[Value.oneCell']) (by omega) (by unfold maxLen;omega) (by omega) (by simp;omega) (x1.heap.size+1) (by simp) ?_;intro ga cga x2 hown hgrow hat hltg;have HO2:Hid (x2.ownsRow wo.heap.size 3 1 (E (some ⟨ga,0,none⟩) (i+1) cga) (i+1) ((F.rowI (F.sysM wd ps) (i+1) j).map (Value.int .i64))):=(by have h:=Il HRK.out hown;rw[xV (by rw[F.rowI_len];exact zX _)]at h;exact h);have HY2:=zZ (ab.grown (HY1.out.alloc (.cells #[C D (sv.n:Int)] 3)) hgrow (fun t ht=>(by have:=aq HO1.out t ht;omega)));obtain⟨ca1,ca2⟩:=lG hown;have HU2:=zZ (ao HUS.out HY2.out);have hs2:wo.heap.size<=x2.heap.size:=HY2.out.size;clear hown hgrow hat hltg HO1 HY1)
        |(go_at_call 189;refine (Fh _ wd j _ HIG.out (by omega)).mono ?_;rw[hsv];rintro e x1 ⟨rfl,hx1⟩;have HO1:=zZ (ao HO.out hx1);have HY1:=zZ (HY.out.trans hx1);have hs1:wo.heap.size<=x1.heap.size:=HY1.out.size;clear hx1))
       have hE3:=(zE x2).alloc (.cells #[E (some ⟨ga,0,none⟩) (i+1) cga] 22);have HM3:Hid (lT W1.heap.size 22 3 x3 (E (some ⟨gr,0,none⟩) (j+1) cgr) ((List.range (j+1)).map (F.rowI (F.sysM wd ps) (i+1)))):=by
        show lT _ _ _ _ _ _
        rw[xP,yG];refine HM.out.push (HY2.out.trans hE3) hws (u:=E (some ⟨ga,0,none⟩) (i+1) cga) (by rw[F.rowI_len];exact ao HO2.out hE3) (by decide) (by rw[qm];exact HUS.out) hgrow3 (by rw[qm];exact hown3)
       have HX3:=zZ (ab.grown ((HX.out.trans HY2.out).trans hE3) hgrow3 (fun t ht=>(by have:=aq HUS.out t ht;omega)));obtain⟨cr1,cr2⟩:=lG hown3;clear hown3 hgrow3 hat3 hltg3 hE3 HO2 HY2 HU2 HUS HM HX HY HO HIG HRK hsv;go_wp2_with fail;go_roundw
       case rel=>exact⟨j+1,some ⟨gr,0,none⟩,cgr,rfl,by go_num,by omega,cr1,cr2,HM3.out,HX3.out⟩
       case measure=>simp[intOf];omega
    ·obtain rfl:j=6:=by omega
     rw[show (((6:Nat):Int)+1)=7 from rfl];obtain⟨g,rfl⟩:∃g,A9=some ⟨g,0,none⟩:=by
      obtain⟨us,e1,e2⟩:=HM.out.own;rw[qm]at e1 e2;rcases e2.2 with ⟨e,h0⟩|⟨g',cap',cur,e,_⟩
      ·omega
      ·injection e with e1;exact⟨g',e1⟩
     have HMW:Hid (dQ W1.heap.size g 22 3 wr (F.sysM wd ps) (k+1)):=by have h:=HM.out;rw[Hf]at h;exact h.matW (by decide) (by omega)
     have HIND:Hid (∀X,F.Sol (F.sysM wd ps) X (k+1)->X k=0->∀c,c<k->X c=0):=by have h:=@F.sys_ind wd ps (by rw[HWL.out];exact hn) HD.out (by rw[HWL.out];exact HLT.out) (by rw[HU.out];exact hu6);rw[HU.out]at h;exact h
     obtain⟨W2,hW2⟩:=nm (wr:World);subst hW2;clear HM hj hj6 hj1;generalize hB:W1.heap.size=base at *
     generalize hMd:F.sysM wd ps=M at *
     go_wp2_with fail;go_loopw [13] (fun s13 wr=>∃(j:Nat),s13=C D (j:Int)/\j<=k/\Hid (∃N,dQ base g 22 3 wr N (k+1)/\F.Unit6 N j/\(∀X,F.Sol N X (k+1)↔F.Sol M X (k+1))/\Below base W2 wr)) (fun i _=>k-(intOf i).toNat)
     case atStart=>exact⟨0,rfl,by omega,M,HMW.out,fun r c _ hc=>by omega,fun X=>Iff.rfl,Below.refl _ _⟩
     case round =>
      clear HMW;obtain⟨j,rfl,hj,HK⟩:=hrel;obtain⟨N,m1,m2,m3,m4⟩:=HK.out;have H1:=zZ m1;have H2:=zZ m2;have H3:=zZ m3;have H4:=zZ m4;clear m1 m2 m3 m4 HK;by_cases hjk:j<k
      ·obtain⟨wo,rfl⟩:=nm (wr:World);have HPV0:Hid (∃p,j<=p/\p<6/\N p j≠0):=F.pivot_ex hjk hu6 H2.out (fun X hX h0=>HIND.out X ((H3.out X).1 hX) h0);go_wp2_with fail;go_loopw [14] (fun s14 wr=>∃(p:Nat),s14=C D (p:Int)/\j<=p/\p<6/\Hid (∀q,j<=q->q<p->N q j=0)/\wr=wo) (fun i _=>6-(intOf i).toNat)
       case atStart=>exact⟨j,rfl,by omega,by omega,fun q h1 h2=>by omega,rfl⟩
       case round =>
        obtain⟨p,rfl,hjp,hp6,HQ,rfl⟩:=hrel;obtain⟨b1,cu1,hc0,hcu1,hcu2,-,-,hce,-,-⟩:=H1.out.at_ hp6;have c1:=hce j (by omega);clear hce;by_cases hz:N p j=0
        ·have hz':(((N p j).n:Int)==0)=true:=by rw[hz];rfl
         have HZ:=zZ hz;clear hz;go_wp2_with fail;go_roundw
         case rel =>
          obtain⟨p',a1,a2,a3⟩:=HPV0.out;have hnew:∀q,j<=q->q<p+1->N q j=0:=fun q h1 h2=>by
           by_cases e:q=p
           ·subst e;exact HZ.out
           ·exact HQ.out q h1 (by omega)
          have:p+1<=p':=by
           rcases zU p' (p+1) with hlt|hge
           ·exact absurd (hnew p' a1 hlt) a3
           ·exact hge
          exact⟨p+1,by go_num,by omega,by omega,hnew,trivial⟩
         case measure=>simp[intOf];omega
        ·have hz':(((N p j).n:Int)==0)=false:=by rw[lk];simp[hz]
         have HZ:=zZ hz;clear hz;go_upto_region 26 with (fail)
         obtain⟨bk,ck,bp,cpp,s1,s2,s3,s4,hsw⟩:=H1.out.swap (k:=j) (p:=p) (by omega) hp6;have HSW:=zZ hsw;clear hsw hc0 c1;have s5:(wr.setCell ⟨g,j,none⟩ (E (some ⟨bp,0,none⟩) (k+1) cpp)).cell? ⟨g,p,none⟩=some (E (some ⟨bp,0,none⟩) (k+1) cpp):=by
          by_cases e:p=j
          ·subst e;exact World.cell?_setCell_same _ _ _ s2
          ·rw[World.cell?_setCell_other _ _ _ _ (fun h=>e (by injection h with _ h2;exact h2.symm))];exact s2
         go_upto_region 29 with (fail)
         have hM1:=HSW.out wr (zE _);have HM1:=zZ hM1.1;have HB1:=zZ (xD H4.out hM1.2);clear hM1 HSW s1 s2 s3 s4 s5;generalize ((wr.setCell ⟨g,j,none⟩ (E (some ⟨bp,0,none⟩) (k+1) cpp)).setCell ⟨g,p,none⟩ (E (some ⟨bk,0,none⟩) (k+1) ck))=X1 at *
         have HNK:Hid (F.swapM N j p j j=N p j):=by show _=_;unfold F.swapM;rw[if_pos rfl]
         generalize hM1:F.swapM N j p=M1 at *
         have HM1d:=zZ hM1;clear hM1 H1 H4;obtain⟨b2,cu2,h10,h11,h12,-,-,h13,-,-⟩:=HM1.out.at_ (r:=j) (by omega);have h14:=h13 j (by omega);rw[HNK.out]at h14;clear h13;generalize hpv:N p j=pv at *
         have HPV:=zZ hpv;clear hpv;go_upto_region 30 with (go_at_call 190;refine (Cm pv _).mono ?_;rintro e x1 ⟨rfl,hx1⟩;replace hx1:=hx1.symm;subst hx1)
         clear h10 h14 h11 h12;go_wp2_with fail;go_loopw [17] (fun s17 wr=>∃(c:Nat),s17=C D (c:Int)/\c<=k+1/\Hid (dQ base g 22 3 wr (F.scaleTo M1 j pv.inv c) (k+1)/\Below base W2 wr)) (fun i _=>k+1-(intOf i).toNat)
         case atStart=>exact⟨0,rfl,by omega,by rw[F.scaleTo_zero];exact HM1.out,HB1.out⟩
         case round =>
          clear HM1 HB1;obtain⟨c,rfl,hc,HC⟩:=hrel;obtain⟨b2,cu2,a0,a1,a2,-,-,a3,a4,a5⟩:=HC.out.1.at_ (r:=j) (by omega);by_cases hcu:c<k+1
          ·have a6:=a3 c (by omega);have a7:=a4 c;have HPUT:=zZ a5;clear a3 a4 a5;have hv:F.scaleTo M1 j pv.inv c j c=M1 j c:=by unfold F.scaleTo;rw[if_neg (by omega)]
           rw[hv]at a6;clear hv;have hS:wr.drew.cell? ⟨g,j,none⟩=some (E (some ⟨b2,0,none⟩) (k+1) cu2)/\wr.drew.cell? ⟨b2,c,none⟩=some (C D ((M1 j c).n:Int)):=⟨a0,a6⟩
           replace hS:=zZ hS;have f1:(0:Int)<=(c:Int):=xT _;have f2:(c:Int)<(k:Int)+1:=by omega
           have f3:(0:Int)<=(j:Int):=xT _;have f4:(j:Int)<6:=by omega
           go_upto_region 33 with (fail)
           refine zR 15 (fun w'=>w'.cell? ⟨g,j,none⟩=some (E (some ⟨b2,0,none⟩) (k+1) cu2)/\w'.cell? ⟨b2,c,none⟩=some (C D ((M1 j c).n:Int))) ?_;refine zS 13 [(0,132),(1,133),(2,134),(3,135),(4,136),(5,137),(6,138),(7,139),(8,140),(9,141),(10,142),(11,143),(12,144)] hS.out ?_;iterate 13 refine zT ?_
           refine zN (zO 13 (fun K hK=>?_));go_simp;refine (CB (M1 j c) pv.inv _).mono ?_;rintro e x1 ⟨rfl,hx1⟩;have HX1:Hid (ab wr x1):=by rw[hx1];exact (zE wr).drew
           clear hx1;replace a0:=HX1.out.cell a0;replace a6:=HX1.out.cell a6;replace hS:=zZ (yJ a0 a6);have hfz:=(HC.out.1.ext HX1.out).frozAt (r:=j) (by omega) a0 c;refine hK.out _ _ (fun _=>hS.out) ?_;clear hK K;try simp only[kA]
           refine zS 1 [(14,146)] hS.out ?_;refine zT ?_;refine zN (zO 15 (fun K hK=>?_));go_simp;refine hK.out _ _ (fun h=>absurd rfl h) ?_;clear hK K;refine zD ?_;have hP:=HPUT.out x1 c (M1 j c*pv.inv) HX1.out;rw[F.scaleTo_succ]at hP;have HP1:=zZ hP.1;have HP2:=zZ (xD HC.out.2 hP.2);clear hP HPUT hS a0 a6 a7 hfz;go_wp2_with fail;go_roundw
           case rel=>exact⟨c+1,by go_num,by omega,HP1.out,HP2.out⟩
           case measure=>simp[intOf];omega
          ·have hce:c=k+1:=by omega
           clear a3 a4 a5;rw[hce]at HC;clear hce;have HM2:Hid (dQ base g 22 3 wr (F.scaleM M1 j pv.inv) (k+1)):=HC.out.1.congr fun r c _ hc=>by
            unfold F.scaleTo F.scaleM;by_cases e:r=j
            ·rw[if_pos ⟨e,hc⟩,if_pos e]
            ·rw[if_neg (fun h=>e h.1),if_neg e]
           have HB2:=zZ HC.out.2;clear HC;have HSTEP:Hid (F.redM (F.scaleM M1 j pv.inv) j=F.stepM N j p):=by show _=_;rw[<-HM1d.out,<-HPV.out];rfl
           generalize F.scaleM M1 j pv.inv=M2 at *
           clear HM1d HNK;go_upto_region 34 with (fail)
           clear a0 a1 a2;go_wp2_with fail;go_loopw [18] (fun s18 wr=>∃(r:Nat),s18=C D (r:Int)/\r<=6/\Hid (dQ base g 22 3 wr (F.redTo M2 j r 0) (k+1)/\Below base W2 wr)) (fun i _=>6-(intOf i).toNat)
           case atStart=>exact⟨0,rfl,by omega,by rw[F.redTo_zero];exact HM2.out,HB2.out⟩
           case round =>
            clear HM2 HB2;obtain⟨r,rfl,hr,HR⟩:=hrel;by_cases hr6:r<6
            ·obtain⟨b2,cu2,a0,a1,a2,-,-,a3,-,-⟩:=HR.out.1.at_ (r:=r) hr6;have hd3:decide ((r:Int)<6)=true:=by simp;omega
             have a6:=a3 j (by omega);have hv:F.redTo M2 j r 0 r j=M2 r j:=by unfold F.redTo;rw[if_neg (by omega)]
             rw[hv]at a6;clear a3 hv;obtain⟨wq,rfl⟩:=nm (wr:World);go_upto_region 38 with (fail)
             clear a0 a1 a2 a6;go_wp2_with fail;go_loopw [20] (fun s20 wr=>∃(c:Nat),s20=C D (c:Int)/\c<=k+1/\Hid (dQ base g 22 3 wr (F.redTo M2 j r c) (k+1)/\Below base W2 wr)) (fun i _=>k+1-(intOf i).toNat)
             case atStart=>exact⟨0,rfl,by omega,HR.out.1,HR.out.2⟩
             case round =>
              clear HR;obtain⟨c,rfl,hc,HC⟩:=hrel;obtain⟨b3,cu3,d0,d1,d2,-,-,d3,-,-⟩:=HC.out.1.at_ (r:=j) (by omega);by_cases hrk:r=j
              ·have HRK:=zZ hrk;have q1:((r:Int)!=(j:Int))=false:=by simp[hrk]
               clear hrk d3;rcases zU c (k+1) with hcu|hcu;all_goals
                go_wp2_with fail;go_roundw
                case rel =>
                 refine⟨r+1,by go_num,by omega,HC.out.1.congr fun r' c' h1 h2=>?_,HC.out.2⟩;unfold F.redTo;have:=HRK.out;by_cases e:r'≠j/\(r'<r\/r'=r/\c'<c)
                 ·rw[if_pos e,if_pos ⟨e.1,by omega⟩]
                 ·rw[if_neg e,if_neg (fun h=>e ⟨h.1,by omega⟩)]
                case measure=>simp[intOf];omega
              have q1:((r:Int)!=(j:Int))=true:=by simp;omega
              have HRK:=zZ hrk;clear hrk;by_cases hcu:c<k+1
              ·obtain⟨b2,cu2,a0,a1,a2,-,-,a3,a4,a5⟩:=HC.out.1.at_ (r:=r) hr6;have a6:=a3 c (by omega);have d6:=d3 c (by omega);have HPUT:=zZ a5;have hv:F.redTo M2 j r c r c=M2 r c:=by unfold F.redTo;rw[if_neg (by omega)]
               have hv2:F.redTo M2 j r c j c=M2 j c:=by unfold F.redTo;rw[if_neg (by omega)]
               rw[hv]at a6;rw[hv2]at d6;clear a3 a4 a5 d3 hv hv2;have hS:wr.drew.cell? ⟨g,r,none⟩=some (E (some ⟨b2,0,none⟩) (k+1) cu2)/\wr.drew.cell? ⟨b2,c,none⟩=some (C D ((M2 r c).n:Int))/\wr.drew.cell? ⟨g,j,none⟩=some (E (some ⟨b3,0,none⟩) (k+1) cu3)/\wr.drew.cell? ⟨b3,c,none⟩=some (C D ((M2 j c).n:Int)):=⟨a0,a6,d0,d6⟩
               replace hS:=zZ hS;have f1:(0:Int)<=(c:Int):=xT _;have f2:(c:Int)<(k:Int)+1:=by omega
               have f3:(0:Int)<=(r:Int):=xT _;have f4:(r:Int)<6:=by omega
               have f5:(0:Int)<=(j:Int):=xT _;have f6:(j:Int)<6:=by omega
               go_upto_region 41 with (fail)
               refine zR 18 (fun w'=>w'.cell? ⟨g,r,none⟩=some (E (some ⟨b2,0,none⟩) (k+1) cu2)/\w'.cell? ⟨b2,c,none⟩=some (C D ((M2 r c).n:Int))/\w'.cell? ⟨g,j,none⟩=some (E (some ⟨b3,0,none⟩) (k+1) cu3)/\w'.cell? ⟨b3,c,none⟩=some (C D ((M2 j c).n:Int))) ?_;refine zS 15 [(0,174),(1,175),(2,176),(3,177),(4,178),(5,179),(6,180),(7,181),(8,182),(9,183),(10,184),(11,185),(12,186),(13,187),(14,188)] hS.out ?_;iterate 15 refine zT ?_
               refine zN (zO 15 (fun K hK=>?_));go_simp;refine (CB (M2 j c) (M2 r j) _).mono ?_;rw[F.mul_comm (M2 j c) (M2 r j)];rintro e x1 ⟨rfl,hx1⟩;have HX1:Hid (ab wr x1):=by rw[hx1];exact (zE wr).drew
               clear hx1;replace a0:=HX1.out.cell a0;replace a6:=HX1.out.cell a6;replace d0:=HX1.out.cell d0;replace d6:=HX1.out.cell d6;replace hS:=zZ (yJ a0 (yJ a6 (yJ d0 d6)));have hfz:=(HC.out.1.ext HX1.out).frozAt (r:=r) hr6 a0 c;refine hK.out _ _ (fun _=>hS.out) ?_;clear hK K;try simp only[kA]
               refine zS 2 [(16,190),(17,191)] hS.out ?_;iterate 2 refine zT ?_
               refine zN (zO 18 (fun K hK=>?_));go_simp;refine hK.out _ _ (fun h=>absurd rfl h) ?_;clear hK K;refine zD ?_;rw[pD];have hP:=HPUT.out x1 c (M2 r c+M2 r j*M2 j c) HX1.out;rw[F.redTo_succ _ _ _ _ HRK.out]at hP;have HP1:=zZ hP.1;have HP2:=zZ (xD HC.out.2 hP.2);clear hP HPUT hS a0 a6 d0 d6 hfz;go_wp2_with fail;go_roundw
               case rel=>exact⟨c+1,by go_num,by omega,HP1.out,HP2.out⟩
               case measure=>simp[intOf];omega
              ·obtain rfl:c=k+1:=by omega
               clear d3;go_wp2_with fail;go_roundw
               case rel =>
                refine⟨r+1,by go_num,by omega,HC.out.1.congr fun r' c' h1 h2=>?_,HC.out.2⟩;unfold F.redTo;by_cases e:r'≠j/\(r'<r\/r'=r/\c'<k+1)
                ·rw[if_pos e,if_pos ⟨e.1,by omega⟩]
                ·rw[if_neg e,if_neg (fun h=>e ⟨h.1,by omega⟩)]
               case measure=>simp[intOf];omega
            ·obtain rfl:r=6:=by omega
             go_wp2_with fail;go_roundw
             case rel =>
              refine⟨j+1,by go_num,by omega,F.stepM N j p,?_,F.unit_step H2.out (by omega) hp6 hjp (by rw[HPV.out];exact HZ.out),fun X=>(F.sol_step (by omega) hp6 (by rw[HPV.out];exact HZ.out)).trans (H3.out X),HR.out.2⟩;rw[<-HSTEP.out];refine HR.out.1.congr fun r' c' h1 _=>?_;unfold F.redTo F.redM;by_cases e:r'=j
              ·rw[if_neg (fun h=>h.1 e),if_pos e]
              ·rw[if_pos ⟨e,.inl h1⟩,if_neg e]
             case measure=>simp[intOf];omega
      ·obtain rfl:k=j:=by omega
       have HM1:=H1;have HUN:=H2;have HSO:=H3;have HEx:Hid (ab w wr):=(HE1.out.trans HX.out).below_trans (by rw[HGB.out];omega) H4.out;have HGx:Hid (wr.heap[G]?=some (.cells ((wI (F.addAt wd [] [])).map (Value.int .i64)).toArray 3 (0,0))):=(H4.out.block G hGW).trans (HX.out.blk HG1.out);clear H1 H2 H3 H4 HIND hj hjk;obtain⟨W3,hW3⟩:=nm (wr:World);subst hW3;go_wp2_with fail;go_loopw [21] (fun s21 wr=>∃(i:Nat),s21=C D (i:Int)/\i<=k/\Hid (wr.heap[G]?=some (.cells ((wI (F.addAt wd (ps.take i) ((List.range i).map fun c=>N c k))).map (Value.int .i64)).toArray 3 (0,0))/\ab w wr/\dQ base g 22 3 wr N (k+1))) (fun i _=>k-(intOf i).toNat)
       case atStart=>exact⟨0,rfl,by omega,HGx.out,HEx.out,HM1.out⟩
       case round =>
        clear HGx HEx HM1;obtain⟨i,rfl,hi,HK⟩:=hrel;have HGr:=zZ HK.out.1;have HEr:=zZ HK.out.2.1;have HMr:=zZ HK.out.2.2;clear HK;by_cases hik:i<k
        ·have HPr:=zZ (HP.out.ext HEr.out);obtain⟨bp,op,z,rfl,-⟩:=HPr.out.at_ hik;obtain⟨z,hcz,HZ,-⟩:=HPr.out.cell_ hik;obtain⟨pl,hpl,rfl⟩:=oz HZ.out;have hpn':pl<n:=HLT.out pl (zW hpl);obtain⟨b2,cu2,a0,a1,a2,-,-,a3,-,-⟩:=HMr.out.at_ (r:=i) (by omega);have a6:=a3 k (by omega);clear a3;have hfz:=ae HGr.out pl;obtain⟨y,hy⟩:∃y,(wI (F.addAt wd (ps.take i) ((List.range i).map fun c=>N c k)))[pl]?=some y:=⟨_,zV (by rw[aT,F.addAt_len,HWL.out];exact hpn')⟩
         have hcy:wr.cell? ⟨G,pl,none⟩=some (C D y):=ac HGr.out (by rw[List.getElem?_toArray,zP,hy];rfl);have HG4:=zZ (DR (i:=pl) HGr.out ((N i k).n:Int));have hset:(wI (F.addAt wd (ps.take i) ((List.range i).map fun c=>N c k))).set pl ((N i k).n:Int)=wI (F.addAt wd (ps.take (i+1)) ((List.range (i+1)).map fun c=>N c k)):=by
          rw[show ps.take (i+1)=ps.take i++[pl] from ax hpl,xP,yG];show _=wI (F.addAt wd (ps.take i++[pl]) (_++[N i k]))
          rw[EM (by rw[yW,HU.out,zJ,wQ];omega) (fun hm=>?_) (HW0.out pl (zW hpl))]
          ·unfold wI;rw[wX]
          ·obtain⟨q,hq1,hq2⟩:=List.mem_iff_getElem?.1 hm |>.imp fun q h=>(show q<i/\ps[q]?=some pl from by
            rw[yB]at h;split at h
            ·exact⟨by assumption,h⟩
            ·cases h)
           have:=(List.getElem?_inj (by rw[HU.out];omega) HD.out).1 (hq2.trans hpl.symm);omega
         rw[hset]at HG4;have HE4:=zZ (HEr.out.setCell (p:=⟨G,pl,none⟩) (by rw[HGB.out];exact zX _) (C D ((N i k).n:Int)));have HM4:Hid (dQ base g 22 3 (wr.setCell ⟨G,pl,none⟩ (C D ((N i k).n:Int))) N (k+1)):=HMr.out.xt ((XT.refl G wr).setCell rfl _) hGW;have hS:wr.drew.cell? ⟨bp,op+i,none⟩=some (C D (pl:Int))/\wr.drew.cell? ⟨g,i,none⟩=some (E (some ⟨b2,0,none⟩) (k+1) cu2)/\wr.drew.cell? ⟨b2,k,none⟩=some (C D ((N i k).n:Int)):=⟨hcz,a0,a6⟩
         replace hS:=zZ hS;clear hset hy hpl HZ HPr;have f1:(0:Int)<=(i:Int):=xT _;have f2:(i:Int)<(k:Int):=by omega
         have f4:(i:Int)<6:=by omega
         have f5:(0:Int)<=(pl:Int):=xT _;have f6:(pl:Int)<(n:Int):=by omega
         have f7:(0:Int)<=(k:Int):=xT _;have f8:(k:Int)<(k:Int)+1:=by omega
         go_upto_region 45 with (fail)
         refine zR 14 (fun w'=>w'.cell? ⟨bp,op+i,none⟩=some (C D (pl:Int))/\w'.cell? ⟨g,i,none⟩=some (E (some ⟨b2,0,none⟩) (k+1) cu2)/\w'.cell? ⟨b2,k,none⟩=some (C D ((N i k).n:Int))) ?_;refine zS 14 [(0,198),(1,199),(2,200),(3,201),(4,202),(5,203),(6,204),(7,205),(8,206),(9,207),(10,208),(11,209),(12,210),(13,211)] hS.out ?_;iterate 14 refine zT ?_
         refine zN (zO 14 (fun K hK=>?_));go_simp;refine hK.out _ _ (fun h=>absurd rfl h) ?_;clear hK K;refine zD ?_;clear hS a0 a1 a2 a6 hcz hcy hfz;go_wp2_with fail;go_roundw
         case rel=>exact⟨i+1,by go_num,by omega,HG4.out,HE4.out.drew,HM4.out.ext (zE _).drew⟩
         case measure=>simp[intOf];omega
        ·obtain rfl:k=i:=by omega
         have HCW:Hid (ps.take k=ps):=xV (by rw[HU.out];exact zX _);have HIG:Hid (ak (G+1) wr (E (some ⟨G,0,none⟩) n n) (wI (F.addAt wd ps ((List.range k).map fun c=>N c k)))):=by have h:=HGr.out;rw[HCW.out]at h;have h:=mU (base:=G) (n:=n) h (by rw[F.addAt_len];exact HWL.out) (zX _) (by omega);exact ak.of_own' (e:=3) h (by simp[Value.ownBlock]) (jQ _) (by rw[aT,F.addAt_len,HWL.out];omega)
         go_wp2_with fail;refine (sg _ _ _ HIG.out).mono ?_;rintro e x1 ⟨rfl,hx1⟩;go_wp2_with fail;go_ret2
         have h:=@F.sys_end wd ps N (by rw[HWL.out];exact hn) HD.out (by rw[HWL.out];exact HLT.out) (by rw[HU.out];exact hu6);rw[HU.out,hMd]at h;refine⟨G,n,F.addAt wd ps ((List.range k).map fun c=>N c k),rfl,zX _,by omega,by rw[F.addAt_len];exact HWL.out,?_,HEr.out.trans hx1,F.Off.addAt _ _ _,fun c ho hc=>((h HUN.out HSO.out).2 c ho hc).2⟩;have h:=HGr.out;rw[HCW.out]at h;exact mU (hx1.blk h) (by rw[F.addAt_len];exact HWL.out) (by rw[HGB.out];exact zX _) (by omega)
theorem Gc(h:l[k]?=some x)(h1:0<=x)(h2:x<32):(((bv l).getD k 0).n:Int)=x:=by
 rw[xU,Cq h];show ((x.toNat%32:Nat):Int)=x
 omega
def kJ(l:List Int)(c:List F)(k:Nat):Nat:=((gm l k).filter fun i=>!((bv l).getD i 0==c.getD i 0)).length
theorem E6(l:List Int)(c:List F):kJ l c l.length=(fj l c).length:=rfl
theorem Ha{c:List F}(h:l[k]?=some x)(e:x=-1):kJ l c (k+1)=kJ l c k:=by unfold kJ;rw[tv h e]
theorem Gm{c:List F}(h:l[k]?=some x)(h1:0<=x)(h2:x<32)(e:x=((c.getD k 0).n:Int)):kJ l c (k+1)=kJ l c k:=by
 unfold kJ;rw[qJ h (by omega),xM];have:(bv l).getD k 0=c.getD k 0:=F.ext (by have:=Gc h h1 h2;omega);have hf:[k].filter (fun i=>!((bv l).getD i 0==c.getD i 0))=[]:=by rw[vJ,if_neg (by rw[this];simp)];rfl
 rw[hf,xN]
theorem In{c:List F}(h:l[k]?=some x)(h1:0<=x)(h2:x<32)(e:x≠((c.getD k 0).n:Int)):kJ l c (k+1)=kJ l c k+1:=by
 unfold kJ;rw[qJ h (by omega),xM,yU];have:(bv l).getD k 0≠c.getD k 0:=fun he=>e (by have:=Gc h h1 h2;rw[he]at this;exact this.symm);have hf:[k].filter (fun i=>!((bv l).getD i 0==c.getD i 0))=[k]:=by rw[vJ,if_pos (by rw[beq_eq_false_iff_ne.2 this];rfl)];rfl
 rw[hf];rfl
theorem Aa(v:Value)(l:List Int)(w:World)(hI:ak p w v l)(hb:cD (-1) l=true) :
  Calls prog 154 #[v] w fun e w'=>∃A m c,e=.returned (E A m c)/\m=(dY l l.length).length/\m<=c/\c<=9223372036854775807/\w'.ownsRow w.heap.size 3 1 (E A m c) m ((fW (dY l l.length)).map (Value.int .i64))/\ab w w':=by
 obtain⟨A,n,c,rfl,hnc,hc,hnn,HL⟩:=hI.open_;have HI:=zZ hI;have hm:=ew hb;have HM:=zZ hm.2.2;have hn15:n<=15:=by have:=HL.out;omega
 obtain⟨i0,hi0,hz0,hz1,hz2⟩:=info_parts Tryz.infoI;clear hI hm hb;go_enter func154,ntmps154
 go_wp2_with fail;go_loopw [3,4] (fun s3 s4 wr=>∃(k m:Nat),s4=C D (k:Int)/\k<=n/\m<=k/\Hid ((dY l k).length=m/\wr.ownsRow w.heap.size 3 1 s3 m ((fW (dY l k)).map (Value.int .i64))/\ab w wr)) (fun _ i _=>n-(intOf i).toNat)
 case atStart=>exact⟨0,0,rfl,by omega,by omega,rfl,yZ _ _ _ _,zE _⟩
 case round =>
  obtain⟨k,m,rfl,hk,hmk,HK⟩:=hrel;have HML:=zZ HK.out.1;have HO:=zZ HK.out.2.1;have HE:=zZ HK.out.2.2;clear HK;have hsz:=HE.out.size;by_cases hkn:k<n
  ·obtain⟨b,off,x,rfl,cx,hx,hx1,hx2⟩:=(HI.out.ext HE.out).at_ hkn;have hxb:=HM.out x (zW hx.out);by_cases hlo:x<0
   ·have HH:=zZ (BW hx.out (show x=-1 by omega));go_wp2_with (at_builtin;refine aF _ rfl (.tmp 16) (.tmp 18) 22 rfl w.heap.size 3 i0 _ 8 underlying22 hi0 hz0 hz1 hz2 rfl u3 m _ rfl (HO.out.alloc _) _ _ rfl (by simp;rfl) rfl (by omega) (by omega) (by simp;omega) ?_;intro v4 w4 hown4 hg4;have HE4:=zZ (ab.grown (HE.out.alloc _) hg4 (aq HO.out));have HO4:=zZ hown4;clear hown4 hg4);go_roundw
    case rel =>
     refine⟨k+1,m+1,by go_num,by omega,by omega,by rw[HH.out,yU,HML.out];rfl,?_,HE4.out⟩;rw[HH.out];have e:fW (dY l k++[k])=fW (dY l k)++[(k:Int)]:=by simp[fW]
     rw[e,yG];exact HO4.out
    case measure=>simp[intOf];omega
   ·have HH:=zZ (tf hx.out (show x≠-1 by omega));go_wp2_with fail;go_roundw
    case rel=>exact⟨k+1,m,by go_num,by omega,by omega,by rw[HH.out];exact HML.out,by rw[HH.out];exact HO.out,HE.out⟩
    case measure=>simp[intOf];omega
  ·obtain rfl:k=n:=by omega
   go_wp2_with fail;go_ret
   obtain⟨A',c',rfl,h1,h2⟩:=jD HO.out;rw[HL.out];exact⟨A',m,c',rfl,HML.out.symm,h1,h2,HO.out,HE.out⟩
theorem AE(v vc:Value)(l:List Int)(cw:List F)(w:World)(hI:ak p w v l)(hC:ak q w vc (wI cw))(hl:cw.length=l.length)(hb:cD (-1) l=true) :
  Calls prog 156 #[v,vc] w fun e w'=>e=.returned (C D ((fj l cw).length:Int))/\∃m,w'=w.drewN m:=by
 obtain⟨A,n,c,rfl,hnc,hc,hnn,HL⟩:=hI.open_;obtain⟨B,n',c',rfl,hnc',hc',hnn',HL'⟩:=hC.open_;obtain rfl:n'=n:=by have:=HL.out;have:=HL'.out;rw[aT]at this;omega
 have HI:=zZ hI;have HC:=zZ hC;have hm:=ew hb;have HM:=zZ hm.2.2;have hn15:n'<=15:=by have:=HL.out;omega
 have HCL:Hid (cw.length=n'):=hl.trans HL.out;clear hI hC hm hb hl HL';go_enter func156,ntmps156
 go_wp2_with fail;go_loopw [5,6] (fun s i wr=>∃(k m d:Nat),k<=n'/\i=C D k/\s=C D d/\d<=k/\Hid (d=kJ l cw k)/\wr=w.drewN m) (fun _ i _=>n'-(intOf i).toNat)
 case atStart=>exact⟨0,0,0,xL _,rfl,rfl,by omega,rfl,rfl⟩
 case round =>
  obtain⟨k,m,d,hk,rfl,rfl,hd1,HK,rfl⟩:=hrel;by_cases hlt:k<n'
  ·obtain⟨b1,o1,x,rfl,hcx,HX,hx1,hx2⟩:=HI.out.at_ hlt;obtain⟨b2,o2,y,rfl,hcy,HY,hy1,hy2⟩:=HC.out.at_ hlt;have hxb:=HM.out x (zW HX.out);have hyc:y=((cw.getD k 0).n:Int):=by
    have h:=HY.out;unfold wI at h;rw[zP,F.getD_eq (w:=cw) (by have:=HCL.out;omega)]at h;injection h with h;exact h.symm
   have HYC:=zZ hyc;clear hyc;by_cases hneg:x<0
   ·have HS:=zZ (Ha (c:=cw) HX.out (show x=-1 by omega));have e0:decide (x≥0)=false:=by simp;omega
    go_wp2_with fail;go_quiet (fail)
    go_wp2_with fail;go_roundw
    case rel=>exact⟨k+1,_,d,by omega,by go_num,rfl,by omega,by rw[HS.out];exact HK.out,rfl⟩
    case measure=>simp[intOf];omega
   have e0:decide (x≥0)=true:=by simp;omega
   by_cases e:x=y
   ·have e1:(x != y)=false:=by simp[e]
    have HS:=zZ (Gm (c:=cw) HX.out (by omega) hxb.2 (e.trans HYC.out));clear e;go_wp2_with fail;go_quiet (fail)
    go_wp2_with fail;go_roundw
    case rel=>exact⟨k+1,_,d,by omega,by go_num,rfl,by omega,by rw[HS.out];exact HK.out,rfl⟩
    case measure=>simp[intOf];omega
   ·have e1:(x != y)=true:=by simp[e]
    have HS:=zZ (In (c:=cw) HX.out (by omega) hxb.2 (fun h=>e (h.trans HYC.out.symm)));clear e;go_wp2_with fail;go_quiet (fail)
    go_wp2_with fail;go_roundw
    case rel=>exact⟨k+1,_,d+1,by omega,by go_num,by go_num,by omega,by show _=_;rw[HS.out,HK.out],rfl⟩
    case measure=>simp[intOf];omega
  ·obtain rfl:k=n':=by omega
   go_wp2_with fail;go_ret
   refine⟨ag ?_,_,rfl⟩;rw[HK.out,<-E6,HL.out]
theorem nH{a c:List F}:F.Off (xl 0 a ps) c ps↔F.Off a c ps:=by unfold F.Off;rw[uj];refine and_congr Iff.rfl (forall_congr' fun i=>imp_congr_right fun hi=>?_);rw[vt,if_neg (fun h=>hi h.2)]
def DP(l:List Int)(k:Nat):List Nat:=((List.range l.length).drop k).filter fun i=>!(l.getD i 0==-1)
theorem G3(l:List Int):DP l 0=gm l l.length:=rfl
theorem I0(h:l.length<=k):DP l k=[]:=by unfold DP;rw[List.drop_eq_nil_of_le (by simpa using h)];rfl
theorem Bs(h:l[k]?=some x):DP l k=(if x=-1 then DP l (k+1) else k::DP l (k+1)):=by
 have hk:=(zY.1 h).1;unfold DP;rw[vZ (by simpa using hk),vJ,List.getElem_range,k7 h];by_cases e:x=-1
 ·rw[if_pos e,e];rfl
 ·rw[if_neg e,if_pos (by simp[e])]
theorem GY{α:Type}{S l:List α}{x:α}(h:S.Sublist (x::l)):S.Sublist l\/∃S',S=x::S'/\S'.Sublist l:=by
 cases h with
 |cons _ h=>exact .inl h
 |cons_cons _ h=>exact .inr ⟨_,rfl,h⟩
def J2(w:World)(l:List Int)(ps:List Nat)(more frm:Nat)(e:Ending)(w':World):Prop :=
 ∃(A:Option Addr) (n c:Nat) (b:Bool),e=.returned (.tuple #[E A n c,.bool b])/\ab w w' /\
  (b=true->∃(cw:List F) (S:List Nat) (g:Nat),A=some ⟨g,0,none⟩/\n=l.length/\n<=c/\c<=9223372036854775807/\cw.length=l.length/\eT w.heap.size w' (E A n c) cw/\S.length<=more/\F.Off (bv l) cw (ps++S)/\F.Code cw) /\
  (b=false->∀S,S.Sublist (DP l frm)->S.length<=more->∀c,F.Off (bv l) c (ps++S)->¬F.Code c)
theorem BU(l:List Int)(hb:cD (-1) l=true):∀(more frm:Nat) (v vp:Value) (ps:List Nat) (w:World) (q q':Nat),ak q w v l->ak q' w vp (fW ps)->frm<=l.length->ps.length+more<=6->ps.Nodup ->
  (∀p∈ps,p<l.length/\(l.getD p 0=-1\/p<frm))->(∀i,i<l.length->l.getD i 0=-1->i∈ps) ->
  Calls prog 155 #[v,vp,C D (more:Int),C D (frm:Int)] w (J2 w l ps more frm):=by
 intro more;induction more with
 |zero =>
  intro frm v vp ps w q q' hI hP hfr h6 hd hps her;obtain⟨A,n,c,rfl,hnc,hc,hnn,HL⟩:=hI.open_;obtain⟨Ap,u,cp,rfl,hpc,hpp,hpn,HLp⟩:=hP.open_;have hm:=ew hb;have HF:=zZ (pa (E A n c) (E Ap u cp) l ps w hI hP (by omega) (by omega) hd (fun p hp=>(hps p hp).1) (by omega) (fun i x hi hx=>by have h1:=hm.2.2 x (zW hx);have h2:x≠-1:=fun e=>hi (her i (zY.1 hx).1 (by rw[k7 hx,e]));omega))
  go_enter func155,ntmps155
  go_upto_if 22 with (go_at_call 143;refine HF.out.mono ?_;rintro e w1 ⟨g,cp1,cw,rfl,hg1,hg2,hcl,hown,hx1,hoff,huq⟩)
  have hcb:=zm (wd:=cw) (by omega) (by omega);replace hown:=zZ hown;rcases yS (iG (wI cw)) with hcc|hcc
  ·rw[hcc];go_wp2_with fail;go_ret2
   exact⟨_,_,_,true,rfl,hx1,fun _=>⟨cw,[],g,rfl,rfl,hg1,hg2,hcl,hown.out,zX _,by rw[xN];exact nH.1 hoff,hcb.1 hcc⟩,fun h=>by cases h⟩
  ·rw[hcc];go_wp2_with fail;go_ret2
   refine⟨none,0,0,false,rfl,hx1,(fun h=>by cases h),fun _ S hS hl c ho hc=>?_⟩;obtain rfl:S=[]:=xZ (by omega);rw[xN]at ho;have:=huq c (nH.2 ho) hc;subst this;rw[hcb.2 hc]at hcc;cases hcc
 |succ m ih =>
  intro frm v vp ps w q q' hI hP hfr h6 hd hps her;have HIH:=zZ ih;clear ih;obtain⟨A,n,c,rfl,hnc,hc,hnn,HL⟩:=hI.open_;obtain⟨Ap,u,cp,rfl,hpc,hpp,hpn,HLp⟩:=hP.open_;have hm:=ew hb;have HF:=zZ (pa (E A n c) (E Ap u cp) l ps w hI hP (by omega) (by omega) hd (fun p hp=>(hps p hp).1) (by omega) (fun i x hi hx=>by have h1:=hm.2.2 x (zW hx);have h2:x≠-1:=fun e=>hi (her i (zY.1 hx).1 (by rw[k7 hx,e]));omega))
  rw[HL.out]at HF;obtain⟨mm,hmm⟩:=nm (m+1:Nat);rw[<-hmm];have hn7:7<=n:=by have:=HL.out;omega
  have hn15:n<=15:=by have:=HL.out;omega
  have hu6:u+mm<=6:=by have:=HLp.out;rw[fd]at this;omega
  have HUL:Hid (ps.length=u):=by have:=HLp.out;rw[fd]at this;exact this
  have hz:((mm:Int)==0)=false:=by simp;omega
  have hm1:(mm:Int)-1=(m:Int):=by omega
  have hmb:mm<=6:=by omega
  have hm6:m<=5:=by omega
  have HMM:=zZ hmm;clear hmm;have hfn:frm<=n:=by have:=HL.out;omega
  have HM:=zZ hm.2.2;have HD:=zZ hd;have HPS:=zZ hps;have HER:=zZ her;have HI:=zZ hI;have HP:=zZ hP;clear hI hP hd hps her hm h6 hfr HLp;obtain⟨i0,hi0,hz0,hz1,hz2⟩:=info_parts Tryz.infoI;go_enter func155,ntmps155
  go_upto_if 22 with (go_at_call 143;refine HF.out.mono ?_;rintro e w1 ⟨g,cp1,cw,rfl,hg1,hg2,hcl,hown,hx1,hoff,huq⟩)
  have hcb:=zm (wd:=cw) (by omega) (by omega);replace hown:=zZ hown;replace hoff:=zZ hoff;replace huq:=zZ huq;replace hcb:=zZ hcb;replace hcl:=zZ hcl;replace hx1:=zZ hx1;clear HF;rcases yS (iG (wI cw)) with hcc|hcc
  ·rw[hcc];go_wp2_with fail;go_ret2
   exact⟨_,_,_,true,rfl,hx1.out,fun _=>⟨cw,[],g,rfl,HL.out.symm,hg1,hg2,hcl.out.trans HL.out.symm,hown.out,xL _,by rw[xN];exact nH.1 hoff.out,hcb.out.1 hcc⟩,fun h=>by cases h⟩
  rw[hcc];have HNIL:Hid (∀c,F.Off (bv l) c ps->¬F.Code c):=fun c ho hc=>by have:=huq.out c (nH.2 ho) hc;subst this;rw[hcb.out.2 hc]at hcc;cases hcc
  clear hcc hcb huq hoff hown hcl;go_wp2_with fail;go_loopw [12] (fun s12 wr=>∃(k:Nat),s12=C D (k:Int)/\frm<=k/\k<=n/\Hid (ab w wr/\∀S,S.Sublist (DP l frm)->S.length<=mm->(∀c,F.Off (bv l) c (ps++S)->¬F.Code c)\/S.Sublist (DP l k))) (fun i _=>n-(intOf i).toNat)
  case atStart=>exact⟨frm,rfl,by omega,by omega,hx1.out,fun S h _=>.inr h⟩
  case round =>
   clear hx1;obtain⟨k,rfl,hk0,hk,HK⟩:=hrel;have HE:=zZ HK.out.1;have HNO:=zZ HK.out.2;clear HK;by_cases hkn:k<n
   ·obtain⟨b,off,x,rfl,cx,hx,hx1,hx2⟩:=(HI.out.ext HE.out).at_ hkn;have hxb:=HM.out x (zW hx.out);by_cases hlo:x<0
    ·have HH:Hid (DP l k=DP l (k+1)):=by show _=_;rw[Bs hx.out,if_pos (by omega)]
     go_wp2_with fail;go_roundw
     case rel=>exact⟨k+1,by go_num,by omega,by omega,HE.out,fun S h1 h2=>by rw[<-HH.out];exact HNO.out S h1 h2⟩
     case measure=>simp[intOf];omega
    ·have HH:Hid (DP l k=k::DP l (k+1)):=by show _=_;rw[Bs hx.out,if_neg (by omega)]
     have HPr:=zZ (HP.out.ext HE.out);have HKN:Hid (k ∉ ps):=fun hmem=>by
      rcases (HPS.out k hmem).2 with h|h
      ·rw[k7 hx.out]at h;omega
      ·omega
     have HE3r:=zZ (zE wr);go_upto_region 13 with (first
      |(at_builtin;refine dh _ rfl (.tmp 38) (.tmp 39) 22 rfl wr.heap.size 3 i0 _ 8 underlying22 hi0 hz0 hz1 hz2 rfl (E none 0 0) 0 [] rfl (yZ _ _ _ _) q' Ap u cp (fW ps) rfl HPr.out (by omega) (by omega) (zX _) ?_;intro v3 w3 hown3 hg3;have HE3:=zZ (ab.grown HE3r.out hg3 (by simp[Value.ownBlock]));have HO3:=zZ hown3;clear hown3 hg3)
      |(at_builtin;refine aF _ rfl (.tmp 41) (.tmp 43) 22 rfl wr.heap.size 3 i0 _ 8 underlying22 hi0 hz0 hz1 hz2 rfl v3 _ _ rfl (HO3.out.alloc _) _ _ rfl (by simp;rfl) rfl (by omega) (by omega) (by have:=HE3.out.size;simp;omega) ?_;intro v4 w4 hown4 hg4;have HE4:=zZ (ab.grown (HE3.out.alloc _) hg4 (aq HO3.out));have HO4:=zZ hown4;clear hown4 hg4))
     have HO5:Hid (w4.ownsRow wr.heap.size 3 1 v4 (u+1) ((fW (ps++[k])).map (Value.int .i64))):=by
      have e:fW (ps++[k])=fW ps++[(k:Int)]:=by simp[fW]
      have h:=HO4.out;rw[yV,List.nil_append]at h;show World.ownsRow _ _ _ _ _ _ _
      rw[e,yG];exact h
     obtain⟨A4,c4,rfl,hA1,hA2⟩:=jD HO5.out;have HEw4:=zZ (HE.out.trans HE4.out);have HCA:Hid (Calls prog 155 #[E (some ⟨b,off,none⟩) n c,E A4 (u+1) c4,C D (m:Int),C D ((k:Int)+1)] w4 (J2 w4 l (ps++[k]) m (k+1))):=by
      have h:=HIH.out (k+1) (E (some ⟨b,off,none⟩) n c) (E A4 (u+1) c4) (ps++[k]) w4 w4.heap.size w4.heap.size ((HI.out.ext HEw4.out).re (zX _))
       (ak.of_own' (p:=w4.heap.size) (e:=3) HO5.out (fun h=>by have:=(HO5.out.lt _ h).2;omega) (na fun p hp=>by
        rcases zM.1 hp with h|h
        ·have:=(HPS.out p h).1;rw[HL.out]at this;omega
        ·simp at h;omega) (by rw[fd,yU,HUL.out];simp;omega))
       (by rw[HL.out];omega) (by rw[yU,HUL.out];simp;have:=HMM.out;omega)
       (by rw[uO];refine⟨HD.out,by simp,fun a ha b hb' e=>?_⟩;simp at hb';subst e;subst hb';exact HKN.out ha)
       (fun p hp=>by
        rcases zM.1 hp with h|h
        ·have h1:=HPS.out p h;exact⟨h1.1,h1.2.imp id (fun e=>by omega)⟩
        ·simp at h;subst h;exact⟨by rw[HL.out];exact hkn,.inr (by omega)⟩)
       (fun i h1 h2=>xH _ (HER.out i h1 h2))
      rw[show (((k+1:Nat)):Int)=(k:Int)+1 by omega]at h;exact h
     have hs4:w.heap.size<=w4.heap.size:=HEw4.out.size;clear HO3 HO4 HO5 HE3 HE4 HPr;go_upto_if 55 with (go_at_call 155;refine HCA.out.mono ?_;rintro e w5 ⟨A5,n5,c5,b5,rfl,hx5,ht5,hf5⟩)
     replace ht5:=zZ ht5;replace hf5:=zZ hf5;have HE5:=zZ (HEw4.out.trans hx5);clear hx5 HCA HEw4;cases b5 with
     |true =>
      go_wp2_with fail;go_ret2
      obtain⟨cw',S,g',t1,t2,t3,t4,t5,t6,t7,t8,t9⟩:=ht5.out trivial;refine⟨A5,n5,c5,true,rfl,HE5.out,fun _=>⟨cw',k::S,g',t1,t2,t3,t4,t5,gM t6 hs4,by rw[HMM.out];simp;omega,by simpa using t8,t9⟩,fun h=>by cases h⟩
     |false =>
      go_wp2_with fail;go_roundw
      case rel =>
       refine⟨k+1,by go_num,by omega,by omega,HE5.out,fun S h1 h2=>?_⟩;rcases HNO.out S h1 h2 with h|h
       ·exact .inl h
       ·rw[HH.out]at h;rcases GY h with h|⟨S',rfl,hs'⟩
        ·exact .inr h
        ·refine .inl fun c ho hc=>hf5.out rfl S' hs' (by have:=HMM.out;simp at h2;omega) c (by simpa using ho) hc
      case measure=>simp[intOf];omega
   ·obtain rfl:k=n:=by omega
    go_wp2_with fail;go_ret2
    refine⟨none,0,0,false,rfl,HE.out,(fun h=>by cases h),fun _ S hS hl c ho hc=>?_⟩;rcases HNO.out S hS hl with h|h
    ·exact h c ho hc
    ·rw[I0 (by rw[HL.out];exact zX _)]at h;obtain rfl:=List.eq_nil_of_sublist_nil h;rw[xN]at ho;exact HNIL.out c ho hc
theorem Hx{c:List F}{S:List Nat}(hlen:c.length=l.length)(ho:F.Off (bv l) c (dY l l.length++S)):(fj l c).length<=S.length:=by
 refine lE _ _ ((uO.1 (iY l l.length)).2.1.sublist (jp l c)) fun i hi=>?_;obtain⟨h1,h2⟩:=xR.1 hi;obtain⟨h3,h4⟩:=oK.1 h1;refine Classical.byContradiction fun hns=>?_;have h5:=ho.2 i (fun hm=>by
  rcases zM.1 hm with h|h
  ·exact h4 (kW.1 h).2
  ·exact hns h)
 rw[F.getD_eq (w:=c) (by omega),F.getD_eq (w:=bv l) (by rw[bt];exact h3)]at h5;injection h5 with h5;rw[h5]at h2;simp at h2
def K4(w:World)(l:List Int)(e:Ending)(w':World):Prop :=
 ∃(A:Option Addr) (m c:Nat) (d:List F) (er k:Int),e=.returned (.tuple #[E A m c,C D er,C D k])/\ak w'.heap.size w' (E A m c) (wI d)/\ab w w' /\
  (cD (-1) l=false->d=[]/\er=0/\k=2) /\
  (cD (-1) l=true->(∃(cw:List F) (n:Nat),pn l cw n/\d=cw.take (l.length-6)/\er=n/\k=0)\/((∀cw n,¬pn l cw n)/\d=[]/\er=0/\k=25))
theorem K8(v:Value)(l:List Int)(w:World)(hT:cK w)(hI:ak q w v l):Calls prog 107 #[v] w (K4 w l) :=
 (Ck v l w hT hI).mono fun e w' ⟨A,m,c,d,er,k,he,hi,hx,h⟩=>⟨A,m,c,d,er,k,he,hi.re (zX _),hx,h⟩
theorem zj(v:Value)(l:List Int)(w:World)(hI:ak q w v l) :
  Calls prog 110 #[v] w (K4 w l):=by
 have h0:=hI.re (q:=w.heap.size) (zX _);obtain⟨A,n,c,rfl,hnc,hc,hnn,HL⟩:=hI.open_;have HI:=zZ h0;clear hI h0;rcases yS (cD (-1) l) with hb|hb;case inr =>
  go_enter func110,ntmps110
  go_wp2_with (go_at_call 153;refine (ia _ l (-1) _ HI.out (by omega) (by omega)).mono ?_;rintro e w1 ⟨rfl,HX1⟩;rw[hb]);go_ret3
  exact⟨none,0,0,[],0,2,rfl,ak.nil _ _,HX1,fun _=>⟨rfl,rfl,rfl⟩,fun h=>by rw[hb]at h;cases h⟩
 have hm:=ew hb;have HBW:=zZ hb;have hn7:7<=n:=by have:=HL.out;omega
 have hn15:n<=15:=by have:=HL.out;omega
 clear hm;go_enter func110,ntmps110
 go_upto_if 15 with (first
  |(go_at_call 153;refine (ia _ l (-1) _ HI.out (by omega) (by omega)).mono ?_;rintro e w1 ⟨rfl,HX1⟩;rw[hb];replace HX1:=zZ HX1)
  |(go_at_call 154;refine (Aa _ l _ (HI.out.ext HX1.out) hb).mono ?_;rintro e w2 ⟨A2,m2,c2,rfl,hm2,hc21,hc22,ho2,hx2⟩;replace ho2:=zZ ho2;have HE2:=zZ (HX1.out.trans hx2);replace hm2:=zZ hm2))
 have hm2l:m2<=n:=by have:=BK l l.length;have:=hm2.out;have:=HL.out;omega
 by_cases h6:6<m2
 ·go_wp2_with fail;go_ret3
  refine⟨none,0,0,[],0,25,rfl,ak.nil _ _,HE2.out,fun h=>(by rw[hb]at h;cases h),fun _=>.inr ⟨fun cw k hk=>?_,rfl,rfl,rfl⟩⟩;have:=hk.near;have:=hm2.out;omega
 obtain⟨mo,hmo⟩:=nm ((6-m2)/2:Nat);have hmo2:2*mo+m2<=6:=by omega
 have hmo3:6<2*(mo+1)+m2:=by omega
 have hq:Int.tdiv (6-(m2:Int)) 2=(mo:Int):=by rw[hmo,Int.tdiv_eq_ediv_of_nonneg (by omega)];omega
 have hs2:=HE2.out.size;have HCA:=zZ (BU l hb mo 0 (E A n c) (E A2 m2 c2) (dY l l.length) w2 w2.heap.size w2.heap.size ((HI.out.ext HE2.out).re (zX _))
  (ak.of_own' (p:=w2.heap.size) (e:=3) ho2.out (fun h=>by have:=(ho2.out.lt _ h).2;omega) (na fun p hp=>by have:=pZ hp;have:=HL.out;omega) (by rw[fd];have:=hm2.out;omega))
  (xL _) (by have:=hm2.out;omega) ((uO.1 (iY l l.length)).1) (fun p hp=>⟨pZ hp,.inl (kW.1 hp).2⟩) (fun i h1 h2=>kW.2 ⟨h1,h2⟩))
 clear hmo;go_upto_if 27 with (go_at_call 155;refine HCA.out.mono ?_;rintro e w3 ⟨A3,n3,c3,b3,rfl,hx3,ht3,hf3⟩)
 replace ht3:=zZ ht3;replace hf3:=zZ hf3;have HE3:=zZ (HE2.out.trans hx3);clear hx3 HCA;cases b3 with
 |false =>
  go_wp2_with fail;go_ret3
  refine⟨none,0,0,[],0,25,rfl,ak.nil _ _,HE3.out,fun h=>(by rw[hb]at h;cases h),fun _=>.inr ⟨fun cw k hk=>?_,rfl,rfl,rfl⟩⟩;have h1:=hk.near;have h2:=hm2.out;exact hf3.out trivial (fj l cw) (by rw[G3];exact jp l cw) (by rw[hk.err];omega) cw (oE hk.len) hk.code
 |true =>
  obtain⟨cw,S,g,rfl,hn3,hc31,hc32,hcl,ho3,hSl,hoff,hcode⟩:=ht3.out rfl;obtain rfl:n3=n:=hn3.trans HL.out;have HO3:=zZ ho3;have HCL:=zZ hcl;have HNR:Hid (pn l cw (fj l cw).length):=by have h1:=Hx hcl hoff;have h2:=hm2.out;exact⟨hcl,hcode,rfl,by omega⟩
  have HCI:Hid (ak w3.heap.size w3 (E (some ⟨g,0,none⟩) n3 c3) (wI cw)):=ak.of_own' (p:=w3.heap.size) (e:=3) ho3 (fun h=>by have:=(ho3.lt _ h).2;omega) (jQ _) (by rw[aT,hcl];have:=HL.out;omega);have HQ:Hid (∀m,Calls prog 156 #[E A n3 c,E (some ⟨g,0,none⟩) n3 c3] (w3.drewN m) fun e w'=>e=.returned (C D ((fj l cw).length:Int))/\∃k,w'=(w3.drewN m).drewN k):=fun m =>AE _ _ l cw _ ((HI.out.ext HE3.out).ext ((zE _).drewN m)) (HCI.out.ext ((zE _).drewN m)) hcl hb
  clear ho3 hcl hcode hoff hSl hn3 ht3 hf3;go_wp2_with fail;go_quiet ((go_at_call 156;exact Calls.quiet_of (HQ.out _)))
  go_wp2_with fail;go_ret3
  have HT:Hid (ak w3.heap.size w3 (E (some ⟨g,0,none⟩) (n3-6) c3) (wI (cw.take (n3-6)))):=by have h:=HCI.out.take (k:=n3-6) (by omega);rw[show (wI cw).take (n3-6)=wI (cw.take (n3-6)) from by simp[wI,List.map_take]]at h;exact h
  exact⟨some ⟨g,0,none⟩,n3-6,c3,cw.take (n3-6),_,0,rfl,HT.out.ext ((zE _).drewN _),HE3.out.drewN _,fun h=>(by rw[hb]at h;cases h),fun _=>.inl ⟨cw,_,HNR.out,by rw[HL.out],rfl,rfl⟩⟩
end Go.Proofs.YtkaajgoeahahpaaGreatDoor

