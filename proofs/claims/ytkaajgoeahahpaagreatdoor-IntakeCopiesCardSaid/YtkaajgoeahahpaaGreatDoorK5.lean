import Derived.Laws.Tables
import Derived.Test.YtkaajgoeahahpaaGreatDoorK4
set_option linter.all false
set_option maxRecDepth 100000
set_option maxHeartbeats 0
namespace Go.Proofs.YtkaajgoeahahpaaGreatDoor
open Go.Value renaming int→B
open Go.IntKind renaming i64→C
open Go.RowKit _root_.Go.Proofs.Tryz
theorem xz(a b:Int)(w:World)(h1:-9223372036854775808<=a)(h2:a<=9223372036854775807)(h3:-9223372036854775808<=b)(h4:b<=9223372036854775807) :
  Calls prog 191 #[B C a,B C b] w fun e w'=>e=.returned (B C (kX a b))/\w'=w:=by
 rcases yS (iU a) with ca|ca
 ·rcases yS (iU b) with cb|cb
  ·unfold iU at ca cb;simp only[yT,decide_eq_true_eq]at ca cb;obtain⟨x,rfl⟩:=zG ca.1;obtain⟨y,rfl⟩:=zG cb.1;exact D2 x y w (by omega) (by omega)
  ·have HZ:Hid (kX a b=0):=by show _=_;unfold kX;rw[cb];simp
   go_enter func191,ntmps191
   go_wp2_with fail;refine (dM a _ (by omega) (by omega)).mono ?_;rintro e w1 ⟨rfl,rfl⟩;rw[ca];go_wp2_with fail;refine (dM b _ (by omega) (by omega)).mono ?_;rintro e w1 ⟨rfl,rfl⟩;rw[cb];go_wp2_with fail;go_ret
   exact⟨ag HZ.out.symm,rfl⟩
 ·have HZ:Hid (kX a b=0):=by show _=_;unfold kX;rw[ca];simp
  go_enter func191,ntmps191
  go_wp2_with (go_at_call 142;refine (dM a _ (by omega) (by omega)).mono ?_;rintro e w1 ⟨rfl,rfl⟩;rw[ca]);go_ret
  exact⟨ag HZ.out.symm,rfl⟩
theorem nK{P:Program}{ops:Array Oper}{rest:List Oper}{o:Oper}{a:Act}{w:World}{Q:Exit->Act->World->Prop}(hg:o.guard=none)(t:TypeId)(parts:Array (Nat×Operand))(ho:o.op=.build t parts)(cells:Array Value)(hb:P.built t (parts.map fun (i,x)=>(i,a.eval x)).toList=some cells)(h:wpList P ops Q rest (a.put o.dst (.agg cells)) w):wpList P ops Q (o::rest) a w :=
 wpList_build hg t parts ho (by rw[hb];rfl) (by rw[hb];exact h)
theorem EN{P:Program}(w:World)(t:TypeId)(z cells:Array Value)(ho:z.size=cells.size)(h1:cells.all (·.oneCell')=true) :
  ∃W,(storeCells ⟨w.heap.size,0,none⟩ cells.toList).run P (w.alloc (.cells z t))=.ok () W/\W.heap[w.heap.size]?=some (.cells cells t (0,0))/\ab w W:=by
 have hg:(w.alloc (.cells z t)).heap[w.heap.size]?=some (.cells z t (0,0)):=heap_alloc_new w _;have hs:=run_storeCells_from (P:=P) w.heap.size t cells.toList 0 z (w.alloc (.cells z t)) hg (by simp;omega) (fun v hv=>(Array.all_eq_true_iff_forall_mem.1 h1) v (by simpa using hv));have e:(z.toList.take 0++cells.toList).toArray=cells:=by simp
 rw[e]at hs;refine⟨_,hs,setRow_heap _ _ _ _ _ _ hg,?_⟩;have h:=(zE w).alloc (.cells z t);exact⟨h.os,h.tape,h.output,by simp,fun k hk=>by rw[setRow_other _ _ _ _ (by omega)];exact h.block k hk⟩
theorem GX:∀(a b:Fin 32),o7 a.val b.val=1->((b.val:Nat):Int)=sc (a.val:Int):=by decide +kernel
theorem Kk:∀(a:Fin 32),(∀b:Fin 32,o7 a.val b.val≠1)->sc (a.val:Int)=0:=by decide +kernel
theorem ES(a:Nat):o7 a 0=0:=by unfold o7;split<;>simp
theorem tO(a:Int)(w:World)(h1:-9223372036854775808<=a)(h2:a<=9223372036854775807) :
  Calls prog 190 #[B C a] w fun e w'=>e=.returned (B C (sc a))/\w'=w:=by
 go_enter func190,ntmps190
 go_wp2_with fail;go_loopw [3] (fun i wr=>∃(k:Nat),1<=k/\k<=32/\i=B C k/\Hid (∀j:Nat,1<=j->j<k->kX a j≠1)/\wr=w) (fun i _=>32-(intOf i).toNat)
 case atStart=>exact⟨1,by omega,by omega,rfl,fun j h1 h2=>by omega,rfl⟩
 case round =>
  obtain⟨k,hk1,hk,rfl,HK,rfl⟩:=hrel;by_cases h5:k<32
  ·by_cases c:kX a k=1
   ·have e1:(kX a k==1)=true:=by simp[c]
    have HC:=zZ c;clear c;go_wp2_with (go_at_call 191;refine (xz a k _ (by omega) (by omega) (by omega) (by omega)).mono ?_;rintro e w1 ⟨rfl,rfl⟩);go_ret
    refine⟨ag ?_,rfl⟩;have h:=HC.out;have hm:(iU a&&iU k)=true:=by
     unfold kX at h;split at h
     ·assumption
     ·cases h
    have ea:iU a=true:=by simp only[yT]at hm;exact hm.1
    unfold iU at ea;simp only[yT,decide_eq_true_eq]at ea;obtain⟨x,rfl⟩:=zG ea.1;rw[lC x k (by omega) h5]at h;exact GX ⟨x,by omega⟩ ⟨k,h5⟩ (by simp only;omega)
   ·have e1:(kX a k==1)=false:=by simp[c]
    have HC:=zZ c;clear c;go_wp2_with (go_at_call 191;refine (xz a k _ (by omega) (by omega) (by omega) (by omega)).mono ?_;rintro e w1 ⟨rfl,rfl⟩);go_roundw
    case rel =>
     refine⟨k+1,by omega,by omega,by go_num,fun j h1 h2=>?_,trivial⟩;by_cases e:j=k
     ·subst e;exact HC.out
     ·exact HK.out j h1 (by omega)
    case measure=>simp[intOf];omega
  ·obtain rfl:k=32:=by omega
   go_wp2_with fail;go_ret
   refine⟨ag ?_,rfl⟩;rcases yS (iU a) with ca|ca
   ·unfold iU at ca;simp only[yT,decide_eq_true_eq]at ca;obtain⟨x,rfl⟩:=zG ca.1;refine (Kk ⟨x,by omega⟩ fun b hb=>?_).symm;by_cases e:b.val=0
    ·rw[e,ES]at hb;cases hb
    ·refine HK.out b.val (by omega) b.isLt ?_;rw[lC x b.val (by omega) b.isLt];simp only at hb;rw[hb];rfl
   ·unfold sc;rw[ca];rfl
theorem CA(n:Int)(w:World)(h1:-9223372036854775808<=n)(h2:n<=9223372036854775807) :
  Calls prog 188 #[B C n] w fun e w'=>e=.returned (B C (An n))/\ab w w':=by
 have h0:0<=n%31:=Int.emod_nonneg _ (by decide);have h31:n%31<31:=Int.emod_lt_of_pos _ (by decide);have hb1:-31<n.tmod 31:=Int.lt_tmod_of_pos n (by decide);have hb2:n.tmod 31<31:=Int.tmod_lt_of_pos n (by decide);have HE:Hid (n.tmod 31=n%31\/n.tmod 31+31=n%31):=by
  have:=@Int.tmod_eq_emod n 31;show _\/_
  split at this<;>omega
 obtain⟨k,hk⟩:∃k:Nat,n%31=k:=⟨(n%31).toNat,by omega⟩
 have hk31:k<31:=by omega
 have HP:Hid (((tC.getD k 0:Nat):Int)=An n):=by
  show _=_
  unfold An;rw[hk];rfl
 obtain⟨pc,hpc⟩:=nm ((tC.map fun (n:Nat)=>Value.int .i64 (n:Int)).toArray);have hps:pc.size=31:=by rw[hpc];rfl
 have hp1:pc.all (·.oneCell')=true:=by rw[hpc];decide +kernel
 have hpk:pc[k]?=some (B C ((tC.getD k 0:Nat):Int)):=by rw[hpc,List.getElem?_toArray,zP,xU,zV (show k<tC.length from hk31)];rfl
 have hzv:∀w,(zeroValue 211).run prog w=.ok (.agg (List.replicate 31 (Value.int .i64 0)).toArray) w:=fun _=>by kernel_rfl
 obtain⟨z,hz⟩:=nm ((List.replicate 31 (Value.int .i64 0)).toArray);rw[<-hz]at hzv;have hzs:z.size=31:=by rw[hz];simp
 have HPC:=zZ hpc;clear hz hpc;obtain⟨W,hst,hWb,hWE⟩:=EN (P:=prog) w 211 z pc (by omega) hp1;have HW:=zZ hWE;have hck:=ac hWb hpk;clear hWE hWb;by_cases c:n.tmod 31<0
 ·have e1:n.tmod 31+31=(k:Int):=by have:=HE.out;omega
  clear hk h0 h31;go_enter func188,ntmps188
  go_upto_region 4 with (fail)
  refine wp_region_lit ?_;refine nK rfl 211 _ rfl pc (by rw[HPC.out];kernel_rfl) ?_;go_wp2_with fail;go_ret
  exact⟨ag HP.out,HW.out⟩
 ·have e1:n.tmod 31=(k:Int):=by have:=HE.out;omega
  clear hk h0 h31;go_enter func188,ntmps188
  go_upto_region 4 with (fail)
  refine wp_region_lit ?_;refine nK rfl 211 _ rfl pc (by rw[HPC.out];kernel_rfl) ?_;go_wp2_with fail;go_ret
  exact⟨ag HP.out,HW.out⟩
end Go.Proofs.YtkaajgoeahahpaaGreatDoor

namespace Go.Proofs.YtkaajgoeahahpaaGreatDoor
open Go.Value renaming int→B
open Go.IntKind renaming i64→C
namespace F
variable {k p r u wd:Nat}
def hY(f:Nat->F):Nat->F|0=>0|k+1=>hY f k+f k
theorem jX{f g:Nat->F}(h:∀c,c<k->f c=g c):hY f k=hY g k:=by
 induction k with
 |zero=>rfl
 |succ k ih=>show _+_=_+_;rw[ih fun c hc=>h c (by omega),h k (by omega)]
theorem zk(f g:Nat->F)(k:Nat):hY (fun c=>f c+g c) k=hY f k+hY g k:=by
 induction k with
 |zero=>show (0:F)=0+0;rw[add_zero]
 |succ k ih=>show hY _ k+(f k+g k)=(hY f k+f k)+(hY g k+g k);rw[ih];ac_rfl
theorem BA(a:F)(f:Nat->F)(k:Nat):hY (fun c=>a*f c) k=a*hY f k:=by
 induction k with
 |zero=>show (0:F)=a*0;rw[eB]
 |succ k ih=>show hY _ k+_=a*(hY f k+f k);rw[ih,pY]
theorem oM{f:Nat->F}(h:∀c,c<k->f c=0):hY f k=0:=by
 induction k with
 |zero=>rfl
 |succ k ih=>show hY f k+f k=0;rw[ih fun c hc=>h c (by omega),h k (by omega),add_zero]
theorem kV{f:Nat->F}{i:Nat}(hi:i<k)(h:∀c,c<k->c≠i->f c=0):hY f k=f i:=by
 induction k with
 |zero=>omega
 |succ k ih =>
  show hY f k+f k=f i
  by_cases e:i=k
  ·subst e;rw[oM fun c hc=>h c (by omega) (by omega),zero_add]
  ·rw[ih (by omega) fun c hc hne=>h c (by omega) hne,h k (by omega) (Ne.symm e),add_zero]
theorem Gn{f:Nat->F}{i j:Nat}(hi:i<k)(hj:j<k)(hij:i≠j)(h:∀c,c<k->c≠i->c≠j->f c=0):hY f k=f i+f j:=by
 have e:hY f k=hY (fun c=>(if c=i then f c else 0)+(if c=i then 0 else f c)) k:=jX fun c _=>by split<;>simp[add_zero,zero_add]
 rw[e,zk,kV hi (fun c _ hne=>if_neg hne),kV (i:=j) hj (fun c hc hne=>by
  split
  ·rfl
  ·rename_i h';exact h c hc h' hne),if_pos rfl,if_neg (Ne.symm hij)]
def xm(M:Nat->Nat->F)(r:Nat)(X:Nat->F)(wd:Nat):F:=hY (fun c=>M r c*X c) wd
def Sol(M:Nat->Nat->F)(X:Nat->F)(wd:Nat):Prop:=∀r,r<6->xm M r X wd=0
def swapM(M:Nat->Nat->F)(k p:Nat):Nat->Nat->F:=fun r c=>if r=k then M p c else if r=p then M k c else M r c
def scaleM(M:Nat->Nat->F)(k:Nat)(s:F):Nat->Nat->F:=fun r c=>if r=k then M r c*s else M r c
def redM(M:Nat->Nat->F)(k:Nat):Nat->Nat->F:=fun r c=>if r=k then M r c else M r c+M r k*M k c
def stepM(M:Nat->Nat->F)(k p:Nat):Nat->Nat->F:=redM (scaleM (swapM M k p) k (M p k).inv) k
def Unit6(M:Nat->Nat->F)(k:Nat):Prop:=∀r c,r<6->c<k->M r c=if r=c then 1 else 0
theorem Ii{M:Nat->Nat->F}{X:Nat->F}(hk:k<6)(hp:p<6):Sol (swapM M k p) X wd↔Sol M X wd:=by
 have hd:∀r,xm (swapM M k p) r X wd=if r=k then xm M p X wd else if r=p then xm M k X wd else xm M r X wd:=fun r=>by
  unfold xm swapM;split
  ·rfl
  ·split<;>rfl
 constructor
 ·intro h r hr;by_cases e:r=k
  ·subst e;have:=h p hp;rw[hd]at this;by_cases e2:p=r
   ·subst e2;rw[if_pos rfl]at this;exact this
   ·rw[if_neg e2,if_pos rfl]at this;exact this
  ·by_cases e2:r=p
   ·subst e2;have:=h k hk;rw[hd,if_pos rfl]at this;exact this
   ·have:=h r hr;rw[hd,if_neg e,if_neg e2]at this;exact this
 ·intro h r hr;rw[hd];split
  ·exact h p hp
  ·split
   ·exact h k hk
   ·exact h r hr
theorem EO{M:Nat->Nat->F}{X:Nat->F}{s:F}(hs:s≠0):Sol (scaleM M k s) X wd↔Sol M X wd:=by
 have hd:∀r,xm (scaleM M k s) r X wd=if r=k then s*xm M r X wd else xm M r X wd:=fun r=>by
  unfold xm scaleM;split
  ·rw[<-BA];exact jX fun c _=>by ac_rfl
  ·rfl
 constructor
 ·intro h r hr;have:=h r hr;rw[hd]at this;split at this
  ·exact (kw _ _ this).resolve_left hs
  ·exact this
 ·intro h r hr;rw[hd,h r hr];split
  ·rw[eB]
  ·rfl
theorem Jr{M:Nat->Nat->F}{X:Nat->F}(hk:k<6):Sol (redM M k) X wd↔Sol M X wd:=by
 have hd:∀r,xm (redM M k) r X wd=if r=k then xm M r X wd else xm M r X wd+M r k*xm M k X wd:=fun r=>by
  unfold xm redM;split
  ·rfl
  ·rw[<-BA,<-zk];exact jX fun c _=>by rw[add_mul,pd]
 constructor
 ·intro h r hr;have h1:=h r hr;rw[hd]at h1;have h2:=h k hk;rw[hd,if_pos rfl]at h2;split at h1
  ·exact h1
  ·rw[h2,eB,add_zero]at h1;exact h1
 ·intro h r hr;rw[hd,h r hr,h k hk,eB,add_zero];split<;>rfl
theorem KN{a:F}(h:a≠0):a.inv≠0:=fun e=>by have:=DC a h;rw[e,eB]at this;exact absurd this (by decide +kernel)
theorem sol_step{M:Nat->Nat->F}{X:Nat->F}(hk:k<6)(hp:p<6)(hn:M p k≠0):Sol (stepM M k p) X wd↔Sol M X wd :=
 (Jr hk).trans ((EO (KN hn)).trans (Ii hk hp))
theorem unit_step{M:Nat->Nat->F}(h:Unit6 M k)(hk:k<6)(hp:p<6)(hkp:k<=p)(hn:M p k≠0):Unit6 (stepM M k p) (k+1):=by
 have hs:∀r c,r<6->c<k->swapM M k p r c=if r=c then 1 else 0:=by
  intro r c hr hc;unfold swapM;split
  ·rename_i e;rw[h p c hp hc,if_neg (by omega),if_neg (by omega)]
  ·split
   ·rw[h k c hk hc,if_neg (by omega),if_neg (by omega)]
   ·exact h r c hr hc
 have hz:∀c,c<k->scaleM (swapM M k p) k (M p k).inv k c=0:=by intro c hc;unfold scaleM;rw[if_pos rfl,hs k c hk hc,if_neg (by omega),zero_mul]
 have hkk:scaleM (swapM M k p) k (M p k).inv k k=1:=by unfold scaleM swapM;rw[if_pos rfl,if_pos rfl,DC _ hn]
 intro r c hr hc;unfold stepM redM;rcases zU c k with hck|hck
 ·rw[hz c hck,eB,add_zero];have:scaleM (swapM M k p) k (M p k).inv r c=if r=c then 1 else 0:=by
   by_cases e:r=k
   ·subst e;rw[hz c hck,if_neg (by omega)]
   ·unfold scaleM;rw[if_neg e];exact hs r c hr hck
  rw[this];split<;>rfl
 ·obtain rfl:c=k:=by omega
  split
  ·rename_i e;subst e;rw[hkk]
  ·rename_i e;rw[hkk,mul_one,add_self]
theorem pivot_ex{M:Nat->Nat->F}(hu:k<u)(hu6:u<=6)(h:Unit6 M k)(ind:∀X,Sol M X (u+1)->X u=0->∀c,c<u->X c=0):∃p,k<=p/\p<6/\M p k≠0:=by
 rcases Classical.em (∃p,k<=p/\p<6/\M p k≠0) with h0|hno
 ·exact h0
 ·exfalso;have hz:∀p,k<=p->p<6->M p k=0:=fun p h1 h2=>Classical.byContradiction fun hne=>hno ⟨p,h1,h2,hne⟩;have:=ind (fun c=>if c<k then M c k else if c=k then 1 else 0) (fun r hr=>by
   unfold xm;rcases zU r k with hrk|hrk
   ·rw[Gn (i:=r) (j:=k) (by omega) (by omega) (by omega)]
    ·simp only[if_pos hrk,Nat.lt_irrefl,if_false,if_true,h r r hr hrk,one_mul,mul_one,add_self]
    ·intro c hc h1 h2;by_cases e:c<k
     ·rw[h r c hr e,if_neg (by omega),zero_mul]
     ·simp only[if_neg e,if_neg h2,eB]
   ·refine oM fun c hc=>?_;by_cases e:c<k
    ·rw[h r c hr e,if_neg (by omega),zero_mul]
    ·by_cases e2:c=k
     ·subst e2;rw[hz r hrk hr,zero_mul]
     ·simp only[if_neg e,if_neg e2,eB]) (by simp only[if_neg (show ¬u<k by omega),if_neg (show u≠k by omega)]) k hu
  simp only[Nat.lt_irrefl,if_false,if_true]at this;exact absurd this (by decide +kernel)
theorem qS{M:Nat->Nat->F}(h:Unit6 M u)(hu:u<=6)(hr:r<6)(X:Nat->F)(h1:X u=1):xm M r X (u+1)=(if r<u then X r else 0)+M r u:=by
 show hY (fun c=>M r c*X c) u+M r u*X u=_
 rw[h1,mul_one];congr 1
 split
 ·rename_i e
  rw[kV e]
  ·rw[h r r hr e,if_pos rfl,one_mul]
  ·intro c hc hne;rw[h r c hr hc,if_neg (Ne.symm hne),zero_mul]
 ·rename_i e
  exact oM fun c hc=>by rw[h r c hr hc,if_neg (by omega),zero_mul]
theorem yx{M:Nat->Nat->F}(h:Unit6 M u)(hu:u<=6)(X:Nat->F)(h1:X u=1):Sol M X (u+1)↔(∀c,c<u->X c=M c u)/\(∀r,u<=r->r<6->M r u=0):=by
 constructor
 ·intro hs;refine⟨fun c hc=>?_,fun r h2 h3=>?_⟩
  ·have:=hs c (by omega);rw[qS h hu (by omega) X h1,if_pos hc]at this;exact ly this
  ·have:=hs r h3;rw[qS h hu h3 X h1,if_neg (by omega),zero_add]at this;exact this
 ·intro⟨ha,hb⟩ r hr;rw[qS h hu hr X h1];split
  ·rename_i e;rw[ha r e,add_self]
  ·rename_i e;rw[hb r (by omega) hr,add_zero]
def rowI(M:Nat->Nat->F)(wd r:Nat):List Int:=(List.range wd).map fun c=>((M r c).n:Int)
def matI(M:Nat->Nat->F)(wd:Nat):List (List Int):=(List.range 6).map (rowI M wd)
def upd(M:Nat->Nat->F)(r c:Nat)(y:F):Nat->Nat->F:=fun r' c'=>if r'=r/\c'=c then y else M r' c'
theorem rowI_len(M:Nat->Nat->F)(wd r:Nat):(rowI M wd r).length=wd:=by simp[rowI]
theorem matI_len(M:Nat->Nat->F)(wd:Nat):(matI M wd).length=6:=by simp[matI]
theorem matI_at{M:Nat->Nat->F}(h:r<6):(matI M wd)[r]?=some (rowI M wd r):=by unfold matI;rw[zP,wJ h];rfl
theorem rowI_at{M:Nat->Nat->F}{c:Nat}(h:c<wd):(rowI M wd r)[c]?=some ((M r c).n:Int):=by unfold rowI;rw[zP,wJ h];rfl
def scaleTo(M:Nat->Nat->F)(k:Nat)(s:F)(c:Nat):Nat->Nat->F:=fun r' c'=>if r'=k/\c'<c then M r' c'*s else M r' c'
theorem scaleTo_zero(M:Nat->Nat->F)(k:Nat)(s:F):scaleTo M k s 0=M:=by funext r c;simp[scaleTo]
theorem scaleTo_succ(M:Nat->Nat->F)(k:Nat)(s:F)(c:Nat):upd (scaleTo M k s c) k c (M k c*s)=scaleTo M k s (c+1):=by
 funext r' c'
 unfold upd scaleTo;by_cases e:r'=k/\c'=c
 ·obtain⟨rfl,rfl⟩:=e;simp
 ·rw[if_neg e];by_cases e2:r'=k/\c'<c
  ·rw[if_pos e2,if_pos ⟨e2.1,by omega⟩]
  ·rw[if_neg e2,if_neg (fun h=>e2 ⟨h.1,by have:c'≠c:=fun h'=>e ⟨h.1,h'⟩;omega⟩)]
def redTo(M:Nat->Nat->F)(k r c:Nat):Nat->Nat->F:=fun r' c'=>if r'≠k/\(r'<r\/r'=r/\c'<c) then M r' c'+M r' k*M k c' else M r' c'
theorem redTo_zero(M:Nat->Nat->F)(k:Nat):redTo M k 0 0=M:=by funext r c;simp[redTo]
theorem redTo_succ(M:Nat->Nat->F)(k r c:Nat)(h:r≠k):upd (redTo M k r c) r c (M r c+M r k*M k c)=redTo M k r (c+1):=by
 funext r' c'
 unfold upd redTo;by_cases e:r'=r/\c'=c
 ·obtain⟨rfl,rfl⟩:=e;rw[if_pos ⟨rfl,rfl⟩,if_pos ⟨h,.inr ⟨rfl,by omega⟩⟩]
 ·rw[if_neg e];by_cases e2:r'≠k/\(r'<r\/r'=r/\c'<c)
  ·rw[if_pos e2,if_pos ⟨e2.1,by omega⟩]
  ·rw[if_neg e2,if_neg (fun h'=>e2 ⟨h'.1,by
    rcases h'.2 with h2|h2
    ·exact .inl h2
    ·refine .inr ⟨h2.1,?_⟩;have:c'≠c:=fun h3=>e ⟨h2.1,h3⟩;omega⟩)]
end F
namespace F
def encStep(g rest:List F)(c:F):List F:=List.zipWith (fun r h=>r+(c+rest.headD 0)*h) (rest.tail++[0]) g
theorem FK(x f:F):∀(a b:List F),a.length=b.length->ev x (List.zipWith (fun r h=>r+f*h) a b)=ev x a+f*ev x b
 |[],[],_=>by simp[ev,eB,add_zero]
 |r::a,h::b,hl=>by
  have hl':a.length=b.length:=by simpa using hl
  simp only[List.zipWith_cons_cons,ev,FK x f a b hl',List.length_zipWith,hl',Nat.min_self,add_mul,pY];ac_rfl
theorem AT{g rest:List F}(c:F)(h1:rest.length=6)(h2:g.length=6):(encStep g rest c).length=6:=by unfold encStep;simp[h1,h2]
theorem CT{g rest:List F}{x:F}(c:F)(h1:rest.length=6)(h2:g.length=6)(hg:ev x g=pwr x 6):ev x (encStep g rest c)=ev x rest*x+c*pwr x 6:=by
 match rest,h1 with
 |r0::t,h1 =>
  have ht:t.length=5:=by simpa using h1
  unfold encStep;simp only[List.tail_cons,List.headD_cons];rw[FK x _ _ _ (by simp[ht,h2]),hg,ev_app];simp only[List.length_singleton,ev,List.length_nil,zero_mul,add_zero,ht,pwr_one,add_mul];have:pwr x 6=pwr x 5*x:=rfl;rw[this];rw[show ev x t*x+(c*(pwr x 5*x)+r0*(pwr x 5*x))=r0*pwr x 5*x+ev x t*x+c*(pwr x 5*x) by ac_rfl]
def encRest(g data:List F):List F:=data.foldl (encStep g) (List.replicate 6 0)
theorem enc_fold{g:List F}{x:F}(h2:g.length=6)(hg:ev x g=pwr x 6):∀(d rest:List F),rest.length=6->(d.foldl (encStep g) rest).length=6/\ev x (d.foldl (encStep g) rest)=ev x rest*pwr x d.length+ev x d*pwr x 6
 |[],rest,h=>⟨h,by show ev x rest=ev x rest*1+0*_;rw[mul_one,zero_mul,add_zero]⟩
 |c::d,rest,h=>by
  obtain⟨h3,h4⟩:=enc_fold h2 hg d (encStep g rest c) (AT c h h2);refine⟨h3,?_⟩;rw[List.foldl_cons,h4,CT c h h2 hg];simp only[ev,xQ,pwr,add_mul];ac_rfl
def genL:List F:=[mk 17 (by decide),mk 26 (by decide),mk 30 (by decide),mk 27 (by decide),mk 30 (by decide),mk 24 (by decide)]
def genStep(g:List F)(x:F):List F:=List.zipWith (·+·) (g++[0]) (0::g.map (·*x))
def genTo:Nat->List F|0=>[1]|k+1=>genStep (genTo k) (gp (k+1))
theorem genTo_six:genTo 6=1::genL:=by decide +kernel
theorem genL_root:∀j:Fin 6,ev (gp (j.val+1)) genL=pwr (gp (j.val+1)) 6:=by decide +kernel
theorem enc_code(d:List F):Code (d++encRest genL d)/\(encRest genL d).length=6:=by
 have h:∀j,1<=j->j<=6->ev (gp j) genL=pwr (gp j) 6:=fun j h1 h2=>by have:=genL_root ⟨j-1,by omega⟩;simpa[Nat.sub_add_cancel h1] using this
 refine⟨fun j h1 h2=>?_,(enc_fold rfl (h 1 (by omega) (by omega)) d _ (by simp)).1⟩;obtain⟨h3,h4⟩:=enc_fold (g:=genL) (x:=gp j) rfl (h j h1 h2) d (List.replicate 6 0) (by simp);rw[ev_app];unfold encRest;rw[h3,h4,JH,zero_mul,zero_add,add_self]
theorem Hu(x v:F):∀(w:List F) (i:Nat),i<w.length->ev x (w.set i v)=ev x w+(w.getD i 0+v)*pwr x (w.length-1-i)
 |[],i,h=>by simp at h
 |c::w,0,h=>by
  simp only[vA,ev,List.getD_cons_zero,xQ,Nat.add_sub_cancel,Nat.sub_zero,add_mul];rw[show c*pwr x w.length+ev x w+(c*pwr x w.length+v*pwr x w.length)=(c*pwr x w.length+c*pwr x w.length)+(v*pwr x w.length+ev x w) by ac_rfl,add_self,zero_add]
 |c::w,i+1,h=>by
  have hi:i<w.length:=by simpa using h
  simp only[List.set_cons_succ,ev,List.getD_cons_succ,xQ,yF,Hu x v w i hi];rw[show w.length+1-1-(i+1)=w.length-1-i by omega];ac_rfl
theorem Iu(a b:List (F×F))(j:Nat):pL (a++b) j=pL a j+pL b j:=by
 induction a with
 |nil=>simp[pL,zero_add]
 |cons p a ih=>obtain⟨c,x⟩:=p;simp only[List.cons_append,pL,ih];ac_rfl
theorem EW(f:Nat->F×F)(j u:Nat):pL ((List.range u).map f) j=hY (fun c=>(f c).1*pwr (f c).2 j) u:=by
 induction u with
 |zero=>rfl
 |succ u ih =>
  rw[xP,yG,Iu,ih];show _+(((f u).1*pwr (f u).2 j)+0)=_+_
  rw[add_zero]
def addAt(w:List F):List Nat->List F->List F
 |p::ps,x::xs=>addAt (w.set p (w.getD p 0+x)) ps xs
 |_,_=>w
theorem addAt_len:∀(ps:List Nat) (xs w:List F),(addAt w ps xs).length=w.length
 |p::ps,x::xs,w=>by simp[addAt,addAt_len ps xs]
 |[],_,w=>by simp[addAt]
 |_::_,[],w=>by simp[addAt]
theorem addAt_off{i:Nat}:∀(ps:List Nat) (xs w:List F),i ∉ ps->(addAt w ps xs)[i]?=w[i]?
 |p::ps,x::xs,w,h=>by
  simp only[yM,not_or]at h;simp only[addAt];rw[addAt_off ps xs _ h.2,wW (Ne.symm h.1)]
 |[],_,w,_=>by simp[addAt]
 |_::_,[],w,_=>by simp[addAt]
theorem yl(j:Nat):∀(ps:List Nat) (xs w:List F),(∀p∈ps,p<w.length)->ps.length=xs.length->ev (gp j) (addAt w ps xs)=ev (gp j) w+pL (xs.zip (ps.map fun p=>gp (w.length-1-p))) j
 |p::ps,x::xs,w,h,hl=>by
  have hp:=h p vM;simp only[addAt];rw[yl j ps xs _ (fun q hq=>by rw[yF];exact h q (vN _ hq)) (by simpa using hl),Hu _ _ _ _ hp,yF];simp only[wK,List.zip_cons_cons,pL,<-add_assoc,add_self,zero_add,pwr_gp];rw[wM j (w.length-1-p)]
 |[],[],w,_,_=>by simp[addAt,pL,add_zero]
def Off(w c:List F)(ps:List Nat):Prop:=c.length=w.length/\∀i,i ∉ ps->c[i]?=w[i]?
theorem Off.addAt(w:List F)(ps:List Nat)(xs:List F):Off w (addAt w ps xs) ps:=⟨addAt_len ps xs w,fun _ hi=>addAt_off ps xs w hi⟩
theorem getD_eq{w:List F}{i:Nat}(h:i<w.length):w[i]?=some (w.getD i 0):=by rw[xU,zV h];rfl
theorem GG:∀(ps:List Nat) (w c:List F),Off w c ps->ps.Nodup->(∀p∈ps,p<w.length)->c=F.addAt w ps (ps.map fun p=>w.getD p 0+c.getD p 0)
 |[],w,c,h,_,_=>by
  simp only[List.map_nil,F.addAt];exact xW fun i=>h.2 i (by simp)
 |p::ps,w,c,h,hn,hlt=>by
  have hp:=hlt p vM;rw[uQ]at hn;simp only[wK,F.addAt,Dl];have ho:Off (w.set p (c.getD p 0)) c ps:=by
   refine⟨by rw[yF];exact h.1,fun i hi=>?_⟩;by_cases e:p=i
   ·subst e;rw[wU hp];exact getD_eq (by rw[h.1];exact hp)
   ·rw[wW e];exact h.2 i (fun hm=>by rcases yM.1 hm with e2|e2;exact e e2.symm;exact hi e2)
  have:=GG ps _ c ho hn.2 (fun q hq=>by rw[yF];exact hlt q (vN _ hq));refine this.trans (congrArg (F.addAt _ ps) (vK fun q hq=>?_));have hne:p≠q:=fun e=>hn.1 (e▸hq);congr 1
  rw[xU,wW hne,xU]
def sysM(w:List F)(ps:List Nat):Nat->Nat->F:=fun r c=>if c<ps.length then gp ((r+1)*(w.length-1-ps.getD c 0)) else ev (gp (r+1)) w
theorem vz{w:List F}{ps:List Nat}(r:Nat)(X:Nat->F):xm (sysM w ps) r X (ps.length+1)=pL ((List.range ps.length).map fun c=>(X c,gp (w.length-1-ps.getD c 0))) (r+1)+ev (gp (r+1)) w*X ps.length:=by
 show hY _ ps.length+_=_
 rw[EW];congr 1
 ·refine jX fun c hc=>?_;simp only[sysM,if_pos hc,pwr_gp];rw[mul_comm]
 ·simp only[sysM,Nat.lt_irrefl,if_false]
theorem sys_ind{w:List F}{ps:List Nat}(hn:w.length<=31)(hd:ps.Nodup)(hlt:∀p∈ps,p<w.length)(h6:ps.length<=6)(X:Nat->F)(hs:Sol (sysM w ps) X (ps.length+1))(h0:X ps.length=0):∀c,c<ps.length->X c=0:=by
 intro c hc;have hm:((List.range ps.length).map fun c=>(X c,gp (w.length-1-ps.getD c 0))).map Prod.snd=ps.map fun p=>gp (w.length-1-p):=by
  apply xW;intro i;rcases zU i ps.length with hi|hi
  ·simp[wJ hi,zV hi]
  ·rw[zC (by simpa using hi),zC (by simpa using hi)]
 refine zh ps.length ((List.range ps.length).map fun c=>(X c,gp (w.length-1-ps.getD c 0))) (by simp) ?_ ?_ ?_ (X c,gp (w.length-1-ps.getD c 0)) (zF.2 ⟨c,yX.2 hc,rfl⟩)
 ·rw[hm];have:∀(l:List Nat),l.Nodup->(∀p∈l,p<w.length)->(l.map fun p=>gp (w.length-1-p)).Nodup:=by
   intro l;induction l with
   |nil=>intro _ _;simp
   |cons q l ih =>
    intro h1 h2;rw[uQ]at h1;rw[wK,uQ];refine⟨fun hm=>?_,ih h1.2 fun p hp=>h2 p (vN _ hp)⟩;obtain⟨p,hp,e⟩:=zF.1 hm;have a:=h2 p (vN _ hp);have b:=h2 q vM;have:=Ge (by omega) (by omega) e;have e2:p=q:=by omega
    exact h1.1 (e2▸hp)
  exact this ps hd hlt
 ·intro p hp;obtain⟨i,_,rfl⟩:=zF.1 hp;exact JX _
 ·intro j h1 h2;have:=hs (j-1) (by omega);rw[vz,h0,eB,add_zero,Nat.sub_add_cancel h1]at this;exact this
theorem Ee(X:Nat->F)(f:Nat->F)(ps:List Nat):((List.range ps.length).map X).zip (ps.map f)=(List.range ps.length).map fun c=>(X c,f (ps.getD c 0)):=by
 apply xW;intro i;rcases zU i ps.length with hi|hi
 ·simp[List.getElem?_zip_eq_some,wJ hi,zV hi]
 ·rw[zC (by simpa using hi),zC (by simpa using hi)]
theorem zw{w:List F}{ps:List Nat}(hlt:∀p∈ps,p<w.length)(X:Nat->F)(h1:X ps.length=1):Sol (sysM w ps) X (ps.length+1)↔Code (F.addAt w ps ((List.range ps.length).map X)):=by
 have h:∀j,ev (gp j) (F.addAt w ps ((List.range ps.length).map X))=ev (gp j) w+pL ((List.range ps.length).map fun c=>(X c,gp (w.length-1-ps.getD c 0))) j:=fun j=>by rw[yl j ps _ w hlt (by simp),Ee X (fun p=>gp (w.length-1-p))]
 constructor
 ·intro hs j h2 h3;have:=hs (j-1) (by omega);rw[vz,h1,mul_one,Nat.sub_add_cancel h2]at this;rw[h,add_comm];exact this
 ·intro hc r hr;have:=hc (r+1) (by omega) (by omega);rw[h]at this;rw[vz,h1,mul_one,add_comm];exact this
theorem sys_end{w:List F}{ps:List Nat}{M:Nat->Nat->F}(hn:w.length<=31)(hd:ps.Nodup)(hlt:∀p∈ps,p<w.length)(h6:ps.length<=6)(hu:Unit6 M ps.length)(hM:∀X,Sol M X (ps.length+1)↔Sol (sysM w ps) X (ps.length+1)) :
  ((∀r,ps.length<=r->r<6->M r ps.length=0)->Code (F.addAt w ps ((List.range ps.length).map fun c=>M c ps.length))) /\
  (∀c,Off w c ps->Code c->(∀r,ps.length<=r->r<6->M r ps.length=0)/\c=F.addAt w ps ((List.range ps.length).map fun c=>M c ps.length)):=by
 constructor
 ·intro hb;have h:=(zw hlt (fun c=>if c<ps.length then M c ps.length else 1) (by simp)).1 ((hM _).1 ((yx hu h6 _ (by simp)).2 ⟨fun c hc=>by simp[hc],hb⟩));have e:(List.range ps.length).map (fun c=>if c<ps.length then M c ps.length else 1)=(List.range ps.length).map fun c=>M c ps.length:=vK fun c hc=>by rw[if_pos (yX.1 hc)]
  rw[e]at h;exact h
 ·intro c ho hc;have hcw:=GG ps w c ho hd hlt;have e:(ps.map fun p=>w.getD p 0+c.getD p 0)=(List.range ps.length).map (fun i=>if i<ps.length then w.getD (ps.getD i 0) 0+c.getD (ps.getD i 0) 0 else 1):=by
   apply xW;intro i;rcases zU i ps.length with hi|hi
   ·simp[wJ hi,zV hi,hi]
   ·rw[zC (by simpa using hi),zC (by simpa using hi)]
  rw[e]at hcw;rw[hcw]at hc;have hs:=(hM _).2 ((zw hlt (fun i=>if i<ps.length then w.getD (ps.getD i 0) 0+c.getD (ps.getD i 0) 0 else 1) (by simp)).2 hc);obtain⟨h1,h2⟩:=(yx hu h6 _ (by simp)).1 hs;refine⟨h2,?_⟩;rw[hcw];congr 1
  exact vK fun i hi=>h1 i (yX.1 hi)
end F
end Go.Proofs.YtkaajgoeahahpaaGreatDoor

namespace Go.Proofs.YtkaajgoeahahpaaGreatDoor
open Go.Value renaming int→B
open Go.IntKind renaming i64→C
open Go.RowKit
variable {w:World}
theorem ak.re{p q:Nat}{v:Value}{l:List Int}(h:ak p w v l)(hq:w.heap.size<=q):ak q w v l:=by obtain⟨A,c,hv,h1,h2,h3,h5,h4⟩:=h;exact⟨A,c,hv,h1,h2,h3,h5,fun k x hx=>by obtain⟨b,off,ha,hb,hc⟩:=h4 k x hx;have:=bK hc;simp at this;exact⟨b,off,ha,by omega,hc⟩⟩
theorem GV{base e size n g cap k:Nat}{xs:List Value}(h:w.ownsRow base e size (.slice (some ⟨g,0,none⟩) n cap) n xs)(hk:k<=n):w.ownsRow base e size (.slice (some ⟨g,0,none⟩) k cap) k (xs.take (k*size)):=by
 have hl:=h.1;have hks:k*size<=n*size:=uH _ hk;refine⟨by rw[yW,hl];exact Nat.min_eq_left hks,?_⟩;rcases h.2 with ⟨e,_⟩|⟨g',cap',cur,e,hg,hh,hnc,hcm,hcs,ht⟩
 ·cases e
 ·injection e with e1 e2 e3;subst e3;injection e1 with e1;injection e1 with e1;subst e1;refine .inr ⟨g,cap,cur,rfl,hg,hh,by omega,hcm,hcs,?_⟩;rw[<-ht,List.take_take,Nat.min_eq_left hks]
theorem lG{base e size n m g cap:Nat}{xs:List Value}(h:w.ownsRow base e size (.slice (some ⟨g,0,none⟩) n cap) m xs):n<=cap/\cap<=9223372036854775807:=by
 rcases h.2 with ⟨e,_⟩|⟨g',cap',cur,e,hg,hh,hnc,hcm,hcs,ht⟩
 ·cases e
 ·injection e with e1 e2 e3;subst e2;subst e3;exact⟨hnc,hcm⟩
structure Bx (p:Prop):Prop where
 out:p
theorem bx{p:Prop}(h:p):Bx p:=⟨h⟩
end Go.Proofs.YtkaajgoeahahpaaGreatDoor

