import Derived.Test.YtjgfgdcaocbfhaaGreatH28
set_option linter.all false
set_option maxRecDepth 100000
set_option maxHeartbeats 0
namespace Go.Proofs.YtjgfgdcaocbfhaaGreat
open Go.RowKit _root_.Go.Proofs.Tryz
theorem qT(a:Int)(w:World):Calls prog 113 #[.int .i64 a] w fun e w'=>e=.returned (.bool false)∧w=w':=by
 have h:(a != a)=false:=by simp
 go_enter func113,ntmps113
 go_wp2
 go_ret
 exact⟨rfl,rfl⟩
theorem jY(a b:Int)(w:World):Calls prog 84 #[.int .i64 a,.int .i64 b] w fun e w'=>e=.returned (.int .i64 (aR a b))∧w=w':=by
 go_enter func84,ntmps84
 go_wp2_with fail;refine (qT a _).mono ?_;rintro e w1 ⟨rfl,rfl⟩;go_wp2_with fail;refine (qT b _).mono ?_;rintro e w1 ⟨rfl,rfl⟩;rcases aT a b with ⟨h,e⟩|⟨h,e⟩|⟨h,e⟩
 ·go_wp2
  go_ret
  exact⟨ah e.symm,rfl⟩
 ·subst h;have h1:decide (a<a)=false:=decide_eq_false (Int.lt_irrefl a);go_wp2
  go_ret
  exact⟨ah e.symm,rfl⟩
 ·have h1:decide (a<b)=false:=decide_eq_false (by omega);have h2:decide (b<a)=true:=decide_eq_true h;go_wp2
  go_ret
  exact⟨ah e.symm,rfl⟩
def nz(x:Int):Bool:=decide (x≠0)
theorem G8(v:Value)(l:List Int)(w:World){p:Nat}(h:ao p w v l):Calls prog 100 #[v] w fun e w'=>e=.returned (.int .i64 ((l.find? nz).getD 0))∧w=w':=by
 obtain⟨A,n,c,rfl,hnc,hc,hnn,HL⟩:=h.open_;have H:=zZ h;clear h;go_enter func100,ntmps100
 go_wp2
 go_loop [8] (fun i=>∃k:Nat,k≤n∧i=.int .i64 k∧Hid (∀(j:Nat) y,j<k→l[j]?=some y→nz y=false)) (fun i=>n-(intOf i).toNat)
 case atStart=>exact⟨0,yK _,rfl,fun j y hj=>by omega⟩
 case round =>
  obtain⟨k,hk,rfl,HK⟩:=hrel;by_cases hlt:k<n
  ·obtain⟨b,off,y,rfl,hcy,HY,hy1,hy2⟩:=H.out.at_ hlt;by_cases e:y=0
   ·have e1:(y != 0)=false:=by simp[e]
    have E:=zZ e;clear e;go_wp2
    go_round
    case rel=>exact⟨k+1,by omega,by go_num,fun j z hj hz=>by
     rcases zV j k with h|h
     ·exact HK.out j z h hz
     ·obtain rfl:j=k:=by omega
      rw[HY.out]at hz;injection hz with hz;subst hz;unfold nz;simp[E.out]⟩
    case measure=>simp[intOf];omega
   ·have e1:(y != 0)=true:=by simp[e]
    have E:=zZ e;clear e;go_wp2
    go_ret
    exact⟨ah (by rw[iY HY.out (by unfold nz;simp[E.out]) (HK.out)];rfl),rfl⟩
  ·obtain rfl:k=n:=by omega
   go_wp2
   go_ret
   exact⟨ah (by rw[lT (fun j y hy=>HK.out j y (by have:=(zY.1 hy).1;have:=HL.out;omega) hy)];rfl),rfl⟩
def dT(a b c d:Int):Int:=if aR a c≠0 then aR a c else aR b d
theorem Bj(a b c d:Int):(([aR a c,aR b d]:List Int).find? nz).getD 0=dT a b c d:=by
 unfold dT nz;by_cases h:aR a c=0
 ·by_cases h2:aR b d=0<;>simp[h,h2]
 ·simp[h]
theorem bY(a b c d:Int):((a<c∨(a=c∧b<d))∧dT a b c d=-1)∨((a=c∧b=d)∧dT a b c d=0)∨((c<a∨(a=c∧d<b))∧dT a b c d=1):=by unfold dT;rcases aT a c with ⟨h,e⟩|⟨h,e⟩|⟨h,e⟩<;>rcases aT b d with ⟨h',e'⟩|⟨h',e'⟩|⟨h',e'⟩<;>rw[e,e']<;>simp<;>omega
theorem nK(a b:Int):-1≤aR a b∧aR a b≤1:=by rcases aT a b with ⟨h,e⟩|⟨h,e⟩|⟨h,e⟩<;>omega
theorem Ba(x y:Int)(w:World)(g c:Nat)(hx:-1≤x∧x≤1)(hy:-1≤y∧y≤1)(h:Bk w g #[.int .i64 x,.int .i64 y] 3):Calls prog 100 #[.slice (some ⟨g,0,none⟩) 2 2] w fun e w'=>e=.returned (.int .i64 (([x,y].find? nz).getD 0))∧w=w':=by
 refine G8 (p:=g+1) _ [x,y] w ⟨some ⟨g,0,none⟩,2,rfl,zX _,by decide,by simp,fun z hz=>?_,fun k z hz=>?_⟩
 ·simp only[yG,wK,or_false]at hz;rcases hz with rfl|rfl<;>constructor<;>omega
 ·match k,hz with
  |0,hz=>simp at hz;subst hz;exact⟨g,0,rfl,by omega,h.c 0 rfl⟩
  |1,hz=>simp at hz;subst hz;exact⟨g,0,rfl,by omega,h.c 1 rfl⟩
  |k+2,hz=>simp at hz
theorem ip(c g ct s q c' g':Int)(A:Option Addr)(n cc:Nat)(w:World) :
  Calls prog 65 #[.agg #[.int .i64 c,.int .i64 g,.int .i64 ct,.slice A n cc,.int .i64 s,.int .i64 q],.int .i64 c',.int .i64 g'] w fun e w'=>e=.returned (.int .i64 (dT c g c' g'))∧ab w w':=by
 have HF:Bx (ae w (w.alloc (.cells #[.int .i64 c,.int .i64 g,.int .i64 ct,.slice A n cc,.int .i64 s,.int .i64 q] 77)) [(w.heap.size,#[.int .i64 c,.int .i64 g,.int .i64 ct,.slice A n cc,.int .i64 s,.int .i64 q],77)]):=⟨(ae.start w).push _ _ rfl⟩
 go_enter func65,ntmps65
 go_upto_region 1 with (fail)
 obtain⟨w1,hw1⟩:=nm ((w.alloc (.cells #[.int .i64 c,.int .i64 g,.int .i64 ct,.slice A n cc,.int .i64 s,.int .i64 q] 77)):World);rw[←hw1]at HF;rw[←hw1];clear hw1;obtain⟨b0,b1⟩:=(HF.out.at_ 0 rfl).p2 rfl;refine zQ 10 fun wd kS=>?_;refine zS 6 [(0,7),(1,8),(2,9),(4,11),(5,12),(6,13)] kS ?_;iterate 6 (apply zT;exact⟨rfl,rfl⟩;(·intro wk hk;have:=hk.cell b0;have:=hk.cell b1;go_simp;try with_reducible rfl);simp only[kA];exact rfl)
 refine zN (zO 3 (fun K hK=>?_))
 ·go_simp;refine (jY c c' _).mono ?_;rintro e w2 ⟨rfl,rfl⟩;refine hK.out _ _ (fun _=>kS) ?_;clear hK K;try simp only[kA]
  refine zO 7 (fun K hK=>?_);go_simp;refine (jY g g' _).mono ?_;rintro e w2 ⟨rfl,rfl⟩;refine hK.out _ _ (fun _=>kS) ?_;clear hK K;try simp only[kA]
  refine zO 8 (fun K hK=>?_);go_simp;have hq:ab w1 (wd.alloc (.cells #[.int .i64 (aR c c'),.int .i64 (aR g g')] 3)):=kS.alloc _;have hb:Bk (wd.alloc (.cells #[.int .i64 (aR c c'),.int .i64 (aR g g')] 3)) wd.heap.size #[.int .i64 (aR c c'),.int .i64 (aR g g')] 3:=Bk.new wd _ _;refine hK.out _ _ (fun _=>(hq)) ?_;clear hK K;try simp only[kA]
  refine zO 9 (fun K hK=>?_);go_simp;refine (Ba _ _ _ _ 2 (nK _ _) (nK _ _) hb).mono ?_;rintro e w2 ⟨rfl,rfl⟩;rw[Bj];refine hK.out _ _ (fun _=>(hq)) ?_;clear hK K;try simp only[kA]
  refine zO 10 (fun K hK=>?_);go_simp;refine hK.out _ _ (fun h=>absurd rfl h) ?_;clear hK K;refine zD ?_;go_wp2_with fail;go_ret
  exact⟨rfl,HF.out.xt.trans hq⟩
theorem iD(c g c' g':Int)(w:World) :
  Calls prog 68 #[.agg #[.int .i64 c,.int .i64 g],.agg #[.int .i64 c',.int .i64 g']] w fun e w'=>e=.returned (.int .i64 (dT c g c' g'))∧ab w w':=by
 have HF:Bx (ae w ((w.alloc (.cells #[.int .i64 c,.int .i64 g] 71)).alloc (.cells #[.int .i64 c',.int .i64 g'] 71)) [(w.heap.size,#[.int .i64 c,.int .i64 g],71),(w.heap.size+1,#[.int .i64 c',.int .i64 g'],71)]):=⟨((ae.start w).push _ _ rfl).push _ _ (by simp)⟩
 go_enter func68,ntmps68
 go_upto_region 1 with (fail)
 obtain⟨w1,hw1⟩:=nm (((w.alloc (.cells #[.int .i64 c,.int .i64 g] 71)).alloc (.cells #[.int .i64 c',.int .i64 g'] 71)):World);rw[←hw1]at HF;rw[←hw1];clear hw1;obtain⟨b0,b1⟩:=(HF.out.at_ 0 rfl).p2 rfl;obtain⟨b2,b3⟩:=(HF.out.at_ 1 rfl).p2 rfl;refine zQ 12 fun wd kS=>?_;refine zS 8 [(0,5),(1,6),(2,7),(3,8),(5,10),(6,11),(7,12),(8,13)] kS ?_;iterate 8 (apply zT;exact⟨rfl,rfl⟩;(·intro wk hk;have:=hk.cell b0;have:=hk.cell b1;have:=hk.cell b2;have:=hk.cell b3;go_simp;try with_reducible rfl);simp only[kA];exact rfl)
 refine zN (zO 4 (fun K hK=>?_))
 ·go_simp;refine (jY c c' _).mono ?_;rintro e w2 ⟨rfl,rfl⟩;refine hK.out _ _ (fun _=>kS) ?_;clear hK K;try simp only[kA]
  refine zO 9 (fun K hK=>?_);go_simp;refine (jY g g' _).mono ?_;rintro e w2 ⟨rfl,rfl⟩;refine hK.out _ _ (fun _=>kS) ?_;clear hK K;try simp only[kA]
  refine zO 10 (fun K hK=>?_);go_simp;have hq:ab w1 (wd.alloc (.cells #[.int .i64 (aR c c'),.int .i64 (aR g g')] 3)):=kS.alloc _;have hb:Bk (wd.alloc (.cells #[.int .i64 (aR c c'),.int .i64 (aR g g')] 3)) wd.heap.size #[.int .i64 (aR c c'),.int .i64 (aR g g')] 3:=Bk.new wd _ _;refine hK.out _ _ (fun _=>(hq)) ?_;clear hK K;try simp only[kA]
  refine zO 11 (fun K hK=>?_);go_simp;refine (Ba _ _ _ _ 2 (nK _ _) (nK _ _) hb).mono ?_;rintro e w2 ⟨rfl,rfl⟩;rw[Bj];refine hK.out _ _ (fun _=>(hq)) ?_;clear hK K;try simp only[kA]
  refine zO 12 (fun K hK=>?_);go_simp;refine hK.out _ _ (fun h=>absurd rfl h) ?_;clear hK K;refine zD ?_;go_wp2_with fail;go_ret
  exact⟨rfl,HF.out.xt.trans hq⟩
theorem tC(a b d c:Int)(w:World):Calls prog 83 #[.agg #[.int .i64 a,.int .i64 b,.int .i64 d],.int .i64 c] w fun e w'=>e=.returned (.int .i64 (aR a c))∧ab w w':=by
 go_enter func83,ntmps83
 go_wp2_with fail;refine (jY a c _).mono ?_;rintro e w1 ⟨rfl,rfl⟩;go_wp2_with fail;go_ret
 exact⟨rfl,(zE _).alloc _⟩
theorem uH(a b d c:Int)(w:World):Calls prog 124 #[.agg #[.int .i64 a,.int .i64 b,.int .i64 d],.int .i64 c] w fun e w'=>e=.returned (.int .i64 (aR a c))∧ab w w':=by
 go_enter func124,ntmps124
 go_wp2_with fail;refine (jY a c _).mono ?_;rintro e w1 ⟨rfl,rfl⟩;go_wp2_with fail;go_ret
 exact⟨rfl,(zE _).alloc _⟩
theorem ul(xc xg xt xs xq c g:Int)(A:Option Addr)(n cc:Nat)(w:World):Calls prog 79 #[.agg #[.int .i64 xc,.int .i64 xg,.int .i64 xt,.slice A n cc,.int .i64 xs,.int .i64 xq],.agg #[.int .i64 c,.int .i64 g]] w fun e w'=>e=.returned (.int .i64 (dT xc xg c g))∧ab w w':=by
 go_enter func79,ntmps79
 go_wp2_with fail;refine (ip xc xg xt xs xq c g A n cc _).mono ?_;rintro e w1 ⟨rfl,hx⟩;go_wp2_with fail;go_ret
 exact⟨rfl,(((zE _).alloc _).alloc _).trans hx⟩
theorem uD(xs xq xt xa xb xc xd c g:Int)(w:World):Calls prog 67 #[.agg #[.int .i64 xs,.int .i64 xq,.int .i64 xt,.int .i64 xa,.int .i64 xb,.int .i64 xc,.int .i64 xd],.agg #[.int .i64 c,.int .i64 g]] w fun e w'=>e=.returned (.int .i64 (dT xs xq c g))∧ab w w':=by
 go_enter func67,ntmps67
 go_wp2_with fail;refine (iD xs xq c g _).mono ?_;rintro e w1 ⟨rfl,hx⟩;go_wp2_with fail;go_ret
 exact⟨rfl,(((zE _).alloc _).alloc _).trans hx⟩
end Go.Proofs.YtjgfgdcaocbfhaaGreat

