import Derived.Test.YtpaidaphacoblaaGreatDoorK0
import Derived.Laws.BitsAllLaws
import Derived.Laws.Tables
set_option linter.all false
set_option maxRecDepth 100000
set_option maxHeartbeats 0
namespace Go.Proofs.YtpaidaphacoblaaGreatDoor
open Go.Value renaming int→A
open Go.IntKind renaming i64→B
def tC:List Nat:=[1,2,4,8,16,5,10,20,13,26,17,7,14,28,29,31,27,19,3,6,12,24,21,15,30,25,23,11,22,9,18]
def tc:List Nat:=[0,0,1,18,2,5,19,11,3,29,6,27,20,8,12,23,4,10,30,17,7,22,28,26,21,25,9,16,13,14,24,15]
def o7(a b:Nat):Nat:=if a=0 then 0 else if b=0 then 0 else tC.getD ((tc.getD a 0+tc.getD b 0)%31) 0
def F:Type:=Fin 32
namespace F
instance:DecidableEq F:=inferInstanceAs (DecidableEq (Fin 32))
instance {p:F->Prop} [h:DecidablePred p]:Decidable (∀a,p a):=@Nat.decidableForallFin 32 p h
def n(a:F):Nat:=Fin.val a
def mk(a:Nat)(h:a<32):F:=(⟨a,h⟩:Fin 32)
theorem lt(a:F):a.n<32:=Fin.isLt a
theorem n_mk(a:Nat)(h:a<32):(mk a h).n=a:=rfl
theorem ext{a b:F}(h:a.n=b.n):a=b:=Fin.ext h
instance:Zero F:=⟨mk 0 (by decide)⟩
instance:One F:=⟨mk 1 (by decide)⟩
instance:Inhabited F:=⟨0⟩
instance:Add F:=⟨fun a b=>mk (a.n ^^^ b.n) (Nat.xor_lt_two_pow (n:=5) a.lt b.lt)⟩
instance:Mul F:=⟨fun a b=>mk (o7 a.n b.n%32) (xI _ (by decide))⟩
theorem n_zero:(0:F).n=0:=rfl
theorem n_add(a b:F):(a+b).n=a.n ^^^ b.n:=rfl
theorem I7:∀a b:F,o7 a.n b.n<32:=by decide +kernel
theorem n_mul(a b:F):(a*b).n=o7 a.n b.n:=Nat.mod_eq_of_lt (I7 a b)
theorem add_comm(a b:F):a+b=b+a:=ext (by rw[n_add,n_add,Nat.xor_comm])
theorem add_assoc(a b c:F):a+b+c=a+(b+c):=ext (by simp only[n_add,Nat.xor_assoc])
theorem zero_add(a:F):0+a=a:=ext (by rw[n_add,n_zero,Nat.zero_xor])
theorem add_zero(a:F):a+0=a:=ext (by rw[n_add,n_zero,Nat.xor_zero])
theorem add_self(a:F):a+a=0:=ext (by rw[n_add,n_zero,Nat.xor_self])
theorem mul_comm:∀a b:F,a*b=b*a:=by decide +kernel
theorem pd:∀a b c:F,a*b*c=a*(b*c):=by decide +kernel
theorem pY:∀a b c:F,a*(b+c)=a*b+a*c:=by decide +kernel
theorem one_mul:∀a:F,1*a=a:=by decide +kernel
theorem zero_mul:∀a:F,0*a=0:=by decide +kernel
theorem kw:∀a b:F,a*b=0->a=0\/b=0:=by decide +kernel
theorem add_mul(a b c:F):(a+b)*c=a*c+b*c:=by rw[mul_comm,pY,mul_comm c a,mul_comm c b]
theorem mul_one(a:F):a*1=a:=by rw[mul_comm,one_mul]
theorem eB(a:F):a*0=0:=by rw[mul_comm,zero_mul]
instance:Std.Associative (α:=F) (·+·):=⟨add_assoc⟩
instance:Std.Commutative (α:=F) (·+·):=⟨add_comm⟩
instance:Std.Associative (α:=F) (·*·):=⟨pd⟩
instance:Std.Commutative (α:=F) (·*·):=⟨mul_comm⟩
theorem Dl(a b:F):a+(a+b)=b:=by rw[<-add_assoc,add_self,zero_add]
theorem ly{a b:F}(h:a+b=0):a=b:=by have:=congrArg (·+b) h;simp only[add_assoc,add_self,add_zero,zero_add]at this;exact this
def inv(a:F):F:=mk ((if a.n=0 then 0 else tC.getD ((31-tc.getD a.n 0)%31) 0)%32) (xI _ (by decide))
theorem n_inv:∀a:F,a.inv.n=if a.n=0 then 0 else tC.getD ((31-tc.getD a.n 0)%31) 0:=by decide +kernel
theorem DC:∀a:F,a≠0->a*a.inv=1:=by decide +kernel
def gp(k:Nat):F:=mk (tC.getD (k%31) 0%32) (xI _ (by decide))
theorem La:∀k:Fin 31,tC.getD k.val 0<32:=by decide +kernel
theorem n_gp(k:Nat):(gp k).n=tC.getD (k%31) 0:=Nat.mod_eq_of_lt (La ⟨k%31,xI _ (by decide)⟩)
theorem rH(k:Nat):gp (k%31)=gp k:=ext (by rw[n_gp,n_gp,Nat.mod_mod])
theorem JG:∀a b:Fin 31,gp (a.val+b.val)=gp a.val*gp b.val:=by decide +kernel
theorem KV(a b:Nat):gp (a+b)=gp a*gp b:=by rw[<-rH a,<-rH b,<-rH (a+b),Nat.add_mod,rH];exact JG ⟨a%31,xI _ (by decide)⟩ ⟨b%31,xI _ (by decide)⟩
theorem IT:gp 0=1:=by decide +kernel
theorem Kg:∀a:Fin 31,gp a.val≠0:=by decide +kernel
theorem JX(a:Nat):gp a≠0:=by rw[<-rH];exact Kg ⟨a%31,xI _ (by decide)⟩
theorem I8:∀a b:Fin 31,gp a.val=gp b.val->a=b:=by decide +kernel
theorem Ge{a b:Nat}(ha:a<31)(hb:b<31)(h:gp a=gp b):a=b:=by have:=I8 ⟨a,ha⟩ ⟨b,hb⟩ h;exact congrArg Fin.val this
def pwr(x:F):Nat->F|0=>1|k+1=>pwr x k*x
theorem JL(x:F)(a b:Nat):pwr x (a+b)=pwr x a*pwr x b:=by
 induction b with
 |zero=>rw[yQ];show _=_*1;rw[mul_one]
 |succ b ih=>rw[<-wC];show pwr x (a+b)*x=_*(pwr x b*x);rw[ih,pd]
theorem pwr_gp(e j:Nat):pwr (gp e) j=gp (j*e):=by
 induction j with
 |zero=>rw[vQ,IT];rfl
 |succ j ih=>rw[Nat.succ_mul,KV,<-ih];rfl
theorem pwr_one(x:F):pwr x 1=x:=by show 1*x=x;rw[one_mul]
def pL:List (F×F)->Nat->F
 |[],_=>0
 |(c,x)::l,j=>c*pwr x j+pL l j
theorem FN(l:List (F×F))(y:F)(j:Nat):pL (l.map fun p=>(p.1*(p.2+y),p.2)) j=pL l (j+1)+y*pL l j:=by
 induction l with
 |nil=>simp[pL,eB,add_zero]
 |cons p l ih =>
  obtain⟨c,x⟩:=p;simp only[wK,pL];rw[ih];simp only[pwr,pY,add_mul];ac_rfl
theorem zh:∀(k:Nat) (l:List (F×F)),l.length=k->(l.map Prod.snd).Nodup->(∀p∈l,p.2≠0)->(∀j,1<=j->j<=k->pL l j=0)->∀p∈l,p.1=0:=by
 intro k;induction k with
 |zero=>intro l hl _ _ _ p hp;rw[xZ hl]at hp;cases hp
 |succ k ih =>
  intro l hl hn hz hm;match l,hl with
  |(c,x)::t,hl =>
   have hlt:t.length=k:=by simpa using hl
   have hnx:x ∉ t.map Prod.snd/\(t.map Prod.snd).Nodup:=by simpa using hn
   have hmt:∀j,1<=j->j<=k+1->pL t j=c*pwr x j:=fun j h1 h2=>by have:=hm j h1 h2;simp only[pL]at this;exact (ly this).symm
   have h1:=ih (t.map fun p=>(p.1*(p.2+x),p.2)) (by simpa using hlt) (by simpa[vY,Function.comp_def] using hnx.2)
    (by intro p hp;simp only[zF]at hp;obtain⟨q,hq,rfl⟩:=hp;exact hz q (vN _ hq))
    (by
     intro j h1 h2;rw[FN,hmt _ (by omega) (by omega),hmt _ h1 (by omega)];show c*(pwr x j*x)+x*(c*pwr x j)=0
     rw[show x*(c*pwr x j)=c*(pwr x j*x) by ac_rfl,add_self])
   have ht:∀q∈t,q.1=0:=by
    intro q hq;have:=h1 (q.1*(q.2+x),q.2) (zF.2 ⟨q,hq,rfl⟩);rcases kw _ _ this with h|h
    ·exact h
    ·exact absurd (ly h) (fun e=>hnx.1 (zF.2 ⟨q,hq,e⟩))
   have hmz:∀(l:List (F×F)) j,(∀q∈l,q.1=0)->pL l j=0:=by
    intro l j;induction l with
    |nil=>intro _;rfl
    |cons q l ih' =>
     intro h;obtain⟨d,y⟩:=q;simp only[pL];rw[show d=0 from h (d,y) (vM),zero_mul,zero_add];exact ih' (fun q hq=>h q (vN _ hq))
   have hc:c=0:=by
    have:=hmt 1 (by omega) (by omega);rw[hmz t 1 ht,pwr_one]at this;rcases kw _ _ this.symm with h|h
    ·exact h
    ·exact absurd h (hz (c,x) vM)
   intro p hp;rcases yM.1 hp with rfl|hp
   ·exact hc
   ·exact ht p hp
def ev(x:F):List F->F
 |[]=>0
 |c::w=>c*pwr x w.length+ev x w
theorem ev_app(x:F)(a b:List F):ev x (a++b)=ev x a*pwr x b.length+ev x b:=by
 induction a with
 |nil=>simp[ev,zero_mul,zero_add]
 |cons c a ih =>
  simp only[List.cons_append,ev,ih,yU,JL,add_mul];ac_rfl
theorem JH(x:F)(k:Nat):ev x (List.replicate k 0)=0:=by
 induction k with
 |zero=>rfl
 |succ k ih=>simp only[vD,ev,ih,zero_mul,zero_add]
def diffs:List F->List F->List (F×F)
 |c::a,d::b=>if c=d then diffs a b else (c+d,gp a.length)::diffs a b
 |_,_=>[]
theorem sW(j:Nat):∀(a b:List F),a.length=b.length->pL (diffs a b) j=ev (gp j) a+ev (gp j) b
 |[],[],_=>by simp[diffs,pL,ev,add_zero]
 |c::a,d::b,h=>by
  have hl:a.length=b.length:=by simpa using h
  have ih:=sW j a b hl;unfold diffs;split
  ·rename_i e
   subst e;rw[ih];simp only[ev,hl];rw[show c*pwr (gp j) b.length+ev (gp j) a+(c*pwr (gp j) b.length+ev (gp j) b)=(c*pwr (gp j) b.length+c*pwr (gp j) b.length)+(ev (gp j) a+ev (gp j) b) by ac_rfl,add_self,zero_add]
  ·simp only[pL,ev,ih,<-hl,pwr_gp,wM j,add_mul];ac_rfl
theorem lM:∀(a b:List F) (p:F×F),p∈diffs a b->∃i,i<a.length/\p.2=gp i
 |c::a,d::b,p,hp=>by
  unfold diffs at hp;split at hp
  ·obtain⟨i,hi,e⟩:=lM a b p hp;exact⟨i,by simp;omega,e⟩
  ·rcases yM.1 hp with rfl|hp
   ·exact⟨a.length,by simp,rfl⟩
   ·obtain⟨i,hi,e⟩:=lM a b p hp;exact⟨i,by simp;omega,e⟩
 |[],_,p,hp=>by simp[diffs]at hp
 |_::_,[],p,hp=>by simp[diffs]at hp
theorem kH:∀(a b:List F),a.length<=31->((diffs a b).map Prod.snd).Nodup
 |c::a,d::b,h=>by
  have hl:a.length+1<=31:=by simpa using h
  unfold diffs;split
  ·exact kH a b (by omega)
  ·rw[wK,uQ];refine⟨fun hm=>?_,kH a b (by omega)⟩;obtain⟨p,hp,e⟩:=zF.1 hm;obtain⟨i,hi,e2⟩:=lM a b p hp;have:=Ge (by omega) (by omega) (e2.symm.trans e);omega
 |[],_,_=>by simp[diffs]
 |_::_,[],_=>by simp[diffs]
theorem qw:∀(a b:List F) (p:F×F),p∈diffs a b->p.1≠0
 |c::a,d::b,p,hp=>by
  unfold diffs at hp;split at hp
  ·exact qw a b p hp
  ·rename_i hne
   rcases yM.1 hp with rfl|hp
   ·exact fun e=>hne (ly e)
   ·exact qw a b p hp
 |[],_,p,hp=>by simp[diffs]at hp
 |_::_,[],p,hp=>by simp[diffs]at hp
theorem tH:∀(a b:List F),a.length=b.length->diffs a b=[]->a=b
 |[],[],_,_=>rfl
 |c::a,d::b,h,hd=>by
  unfold diffs at hd;split at hd
  ·rename_i e
   rw[e,tH a b (by simpa using h) hd]
  ·cases hd
def Code(w:List F):Prop:=∀j,1<=j->j<=6->ev (gp j) w=0
theorem code_apart{a b:List F}(ha:Code a)(hb:Code b)(hl:a.length=b.length)(hn:a.length<=31)(hd:(diffs a b).length<=6):a=b:=by
 refine tH a b hl ?_;have h:=zh _ (diffs a b) rfl (kH a b hn) (fun p hp=>by obtain⟨i,_,e⟩:=lM a b p hp;rw[e];exact JX i)
  (fun j h1 h2=>by rw[sW j a b hl,ha j h1 (by omega),hb j h1 (by omega),add_zero])
 match hdd:diffs a b with
 |[]=>rfl
 |p::t =>
  have hp:p∈diffs a b:=by rw[hdd];exact vM
  exact absurd (h p hp) (qw a b p hp)
end F
end Go.Proofs.YtpaidaphacoblaaGreatDoor

namespace Go.Proofs.YtpaidaphacoblaaGreatDoor
open Go.Value renaming int→A
open Go.IntKind renaming i64→B
open Go.RowKit _root_.Go.Proofs.Tryz
variable {w:World}
def cK(w:World):Prop :=
 (∀k,k<31->w.cell? ⟨0,k,none⟩=some (A B ((tC.getD k 0:Nat):Int))) /\
 (∀k,k<32->w.cell? ⟨1,k,none⟩=some (A B ((tc.getD k 0:Nat):Int)))
theorem cK.lt(h:cK w):2<=w.heap.size:=by have h1:=bK (h.1 0 (by decide));have h2:=bK (h.2 0 (by decide));simp only at h1 h2;omega
theorem cK.ext{w':World}(h:cK w)(e:ab w w'):cK w':=⟨fun k hk=>e.cell (h.1 k hk),fun k hk=>e.cell (h.2 k hk)⟩
theorem cK.xt{w':World}{p:Nat}(h:cK w)(e:XT p w w')(hp:2<=p):cK w':=⟨fun k hk=>e.cell (h.1 k hk) (by simp only;omega),fun k hk=>e.cell (h.2 k hk) (by simp only;omega)⟩
def iU(a:Int):Bool:=decide (0<=a)&&decide (a<32)
def kX(a b:Int):Int:=if iU a&&iU b then (o7 a.toNat b.toNat:Int) else 0
def sc(a:Int):Int:=if iU a&&decide (a≠0) then ((tC.getD ((31-tc.getD a.toNat 0)%31) 0:Nat):Int) else 0
def Anw(n:Int):Int:=((tC.getD (n%31).toNat 0:Nat):Int)
theorem FL:∀k:Fin 32,tc.getD k.val 0<=30:=by decide +kernel
theorem aV(a:Int)(w:World)(h1:-9223372036854775808<=a)(h2:a<=9223372036854775807) :
  Calls prog 197 #[A B a] w fun e w'=>e=.returned (.bool (iU a))/\w=w':=by
 by_cases c1:0<=a
 ·by_cases c2:a<32
  ·go_enter func197,ntmps197
   go_wp2
   go_ret
   exact⟨aa (by simp[iU,c1,c2]),rfl⟩
  ·go_enter func197,ntmps197
   go_wp2
   go_ret
   exact⟨aa (by simp[iU,c1,c2]),rfl⟩
 ·go_enter func197,ntmps197
  go_wp2
  go_ret
  exact⟨aa (by unfold iU;rw[decide_eq_false (by omega)];rfl),rfl⟩
theorem lC(a b:Nat)(ha:a<32)(hb:b<32):kX a b=(o7 a b:Int):=by unfold kX iU;rw[if_pos (by simp;omega)];simp
theorem IK(a b:Int)(w:World)(hT:cK w)(h1:-9223372036854775808<=a)(h2:a<=9223372036854775807)(h3:-9223372036854775808<=b)(h4:b<=9223372036854775807) :
  Calls prog 171 #[A B a,A B b] w fun e w'=>e=.returned (A B (kX a b))/\∃n,w'=w.drewN n:=by
 by_cases c:iU a=true/\iU b=true/\a≠0/\b≠0
 ·obtain⟨ca,cb,za,zb⟩:=c;have ea:=ca;have eb:=cb;unfold iU at ea eb;simp only[yT,decide_eq_true_eq]at ea eb;obtain⟨x,rfl⟩:=zG ea.1;obtain⟨y,rfl⟩:=zG eb.1;have hx:x<32:=by omega
  have hy:y<32:=by omega
  have l1:=hT.2 x hx;have l2:=hT.2 y hy;have b1:tc.getD x 0<=30:=FL ⟨x,hx⟩;have b2:tc.getD y 0<=30:=FL ⟨y,hy⟩;have hm:(tc.getD x 0+tc.getD y 0)%31<31:=xI _ (by decide);have l3:=hT.1 _ hm;have HF:Hid (((tC.getD ((tc.getD x 0+tc.getD y 0)%31) 0:Nat):Int)=kX x y):=by
   show _=_
   rw[lC x y hx hy];unfold o7;rw[if_neg (by omega),if_neg (by omega)]
  generalize tc.getD x 0=p at *
  generalize tc.getD y 0=q at *
  generalize hr:(p+q)%31=r at *
  have hr':((p:Int)+(q:Int)).tmod 31=(r:Int):=by rw[Int.tmod_eq_emod_of_nonneg (by omega)];omega
  clear hT hr;generalize tC.getD r 0=z at *
  have n1:((x:Int)==0)=false:=by simp;omega
  have n2:((y:Int)==0)=false:=by simp;omega
  clear za zb ea eb;go_enter func171,ntmps171
  go_wp2_with fail;refine (aV (x:Int) _ (by omega) (by omega)).mono ?_;rintro e w1 ⟨rfl,rfl⟩;rw[ca];go_wp2_with fail;refine (aV (y:Int) _ (by omega) (by omega)).mono ?_;rintro e w1 ⟨rfl,rfl⟩;rw[cb];go_wp2_with fail;go_quiet (fail)
  go_wp2
  go_ret
  exact⟨ag HF.out,_,rfl⟩
 ·have HZ:Hid (kX a b=0):=by
   show _=_
   unfold kX;split
   ·rename_i hh
    simp only[yT]at hh;have:a=0\/b=0:=by
     by_cases e:a=0
     ·exact .inl e
     ·exact .inr (Classical.byContradiction fun e2=>c ⟨hh.1,hh.2,e,e2⟩)
    rcases this with rfl|rfl
    ·simp[o7]
    ·simp[o7]
   ·rfl
  have HC:=zZ c;clear c;rcases yS (iU a) with ca|ca
  ·rcases yS (iU b) with cb|cb
   ·by_cases za:a=0
    ·subst za;go_enter func171,ntmps171
     go_wp2_with fail;refine (aV 0 _ (by omega) (by omega)).mono ?_;rintro e w1 ⟨rfl,rfl⟩;rw[ca];go_wp2_with fail;refine (aV b _ (by omega) (by omega)).mono ?_;rintro e w1 ⟨rfl,rfl⟩;rw[cb];go_wp2_with fail;go_ret
     exact⟨ag HZ.out.symm,0,rfl⟩
    ·have zb:b=0:=Classical.byContradiction fun e=>HC.out ⟨ca,cb,za,e⟩;subst zb;have n1:(a==0)=false:=by simp[za]
     clear za;go_enter func171,ntmps171
     go_wp2_with fail;refine (aV a _ (by omega) (by omega)).mono ?_;rintro e w1 ⟨rfl,rfl⟩;rw[ca];go_wp2_with fail;refine (aV 0 _ (by omega) (by omega)).mono ?_;rintro e w1 ⟨rfl,rfl⟩;rw[cb];go_wp2_with fail;go_ret
     exact⟨ag HZ.out.symm,0,rfl⟩
   ·go_enter func171,ntmps171
    go_wp2_with fail;refine (aV a _ (by omega) (by omega)).mono ?_;rintro e w1 ⟨rfl,rfl⟩;rw[ca];go_wp2_with fail;refine (aV b _ (by omega) (by omega)).mono ?_;rintro e w1 ⟨rfl,rfl⟩;rw[cb];go_wp2_with fail;go_ret
    exact⟨ag HZ.out.symm,0,rfl⟩
  ·go_enter func171,ntmps171
   go_wp2_with (go_at_call 197;refine (aV a _ (by omega) (by omega)).mono ?_;rintro e w1 ⟨rfl,rfl⟩;rw[ca]);go_ret
   exact⟨ag HZ.out.symm,0,rfl⟩
theorem xx(a:Int)(w:World)(hT:cK w)(h1:-9223372036854775808<=a)(h2:a<=9223372036854775807) :
  Calls prog 198 #[A B a] w fun e w'=>e=.returned (A B (sc a))/\w'=w:=by
 rcases yS (iU a) with ca|ca
 ·by_cases za:a=0
  ·subst za;go_enter func198,ntmps198
   go_wp2_with (go_at_call 197;refine (aV 0 _ (by omega) (by omega)).mono ?_;rintro e w1 ⟨rfl,rfl⟩;rw[ca]);go_ret
   exact⟨ag (by decide),rfl⟩
  ·have ea:=ca;unfold iU at ea;simp only[yT,decide_eq_true_eq]at ea;obtain⟨x,rfl⟩:=zG ea.1;have hx:x<32:=by omega
   have l1:=hT.2 x hx;have b1:tc.getD x 0<=30:=FL ⟨x,hx⟩;have hm:(31-tc.getD x 0)%31<31:=xI _ (by decide);have l3:=hT.1 _ hm;have HF:Hid (((tC.getD ((31-tc.getD x 0)%31) 0:Nat):Int)=sc x):=by
    show _=_
    unfold sc;rw[ca,if_pos (by simp;omega)];simp
   generalize tc.getD x 0=p at *
   generalize hr:(31-p)%31=r at *
   have hr':((31:Int)-(p:Int)).tmod 31=(r:Int):=by rw[Int.tmod_eq_emod_of_nonneg (by omega)];omega
   clear hT hr;generalize tC.getD r 0=z at *
   have n1:((x:Int)==0)=false:=by simp;omega
   clear za ea;go_enter func198,ntmps198
   go_wp2_with (go_at_call 197;refine (aV (x:Int) _ (by omega) (by omega)).mono ?_;rintro e w1 ⟨rfl,rfl⟩;rw[ca]);go_ret
   exact⟨ag HF.out,rfl⟩
 ·go_enter func198,ntmps198
  go_wp2_with (go_at_call 197;refine (aV a _ (by omega) (by omega)).mono ?_;rintro e w1 ⟨rfl,rfl⟩;rw[ca]);go_ret
  exact⟨ag (by unfold sc;rw[ca];rfl),rfl⟩
theorem Fa(n:Int)(w:World)(hT:cK w)(h1:-9223372036854775808<=n)(h2:n<=9223372036854775807) :
  Calls prog 172 #[A B n] w fun e w'=>e=.returned (A B (Anw n))/\w'=w:=by
 have h0:0<=n%31:=Int.emod_nonneg _ (by decide);have h31:n%31<31:=Int.emod_lt_of_pos _ (by decide);have hb1:-31<n.tmod 31:=Int.lt_tmod_of_pos n (by decide);have hb2:n.tmod 31<31:=Int.tmod_lt_of_pos n (by decide);have HE:Hid (n.tmod 31=n%31\/n.tmod 31+31=n%31):=by
  have:=@Int.tmod_eq_emod n 31;show _\/_
  split at this<;>omega
 obtain⟨k,hk⟩:∃k:Nat,n%31=k:=⟨(n%31).toNat,by omega⟩
 have l3:=hT.1 k (by omega);have HP:Hid (((tC.getD k 0:Nat):Int)=Anw n):=by
  show _=_
  unfold Anw;rw[hk];rfl
 clear hT;generalize tC.getD k 0=z at *
 by_cases c:n.tmod 31<0
 ·have e1:n.tmod 31+31=(k:Int):=by have:=HE.out;omega
  clear hk h0 h31;go_enter func172,ntmps172
  go_wp2
  go_ret
  exact⟨ag HP.out,rfl⟩
 ·have e1:n.tmod 31=(k:Int):=by have:=HE.out;omega
  clear hk h0 h31;go_enter func172,ntmps172
  go_wp2
  go_ret
  exact⟨ag HP.out,rfl⟩
theorem dM(a:Int)(w:World)(h1:-9223372036854775808<=a)(h2:a<=9223372036854775807) :
  Calls prog 93 #[A B a] w fun e w'=>e=.returned (.bool (iU a))/\w=w':=by
 by_cases c1:0<=a
 ·by_cases c2:a<32
  ·go_enter func93,ntmps93
   go_wp2
   go_ret
   exact⟨aa (by simp[iU,c1,c2]),rfl⟩
  ·go_enter func93,ntmps93
   go_wp2
   go_ret
   exact⟨aa (by simp[iU,c1,c2]),rfl⟩
 ·go_enter func93,ntmps93
  go_wp2
  go_ret
  exact⟨aa (by unfold iU;rw[decide_eq_false (by omega)];rfl),rfl⟩
def r1(a b:Nat):Nat->Nat
 |0=>0
 |k+1=>if b/2 ^ k%2=1 then r1 a b k ^^^ (a*2 ^ k) else r1 a b k
def r2(o:Nat):Nat->Nat
 |0=>o
 |m+1=>if r2 o m/2 ^ (8-m)%2=1 then r2 o m ^^^ (37*2 ^ (3-m)) else r2 o m
theorem Lo:∀(a b:Fin 32) (k:Fin 6),r1 a.val b.val k.val<512:=by decide +kernel
theorem KZ:∀(o:Fin 512) (k:Fin 5),r2 o.val k.val<512:=by decide +kernel
theorem LJ:∀(a b:Fin 32),r2 (r1 a.val b.val 5) 4=o7 a.val b.val:=by decide +kernel
theorem mS(n:Nat)(h:n<9223372036854775808):IntKind.i64.wrap (n:Int)=(n:Int):=yN _ (by omega)
theorem sZ(x:Nat)(h:x<9223372036854775808):bits .and .i64 (x:Int) 1=((x%2:Nat):Int):=by
 have e:(BitVec.ofInt 64 (x:Int)).toNat=x:=by rw[BitVec.toNat_ofInt];omega
 show IntKind.i64.wrap ((BitVec.ofInt 64 (x:Int) &&& BitVec.ofInt 64 1).toNat:Int)=_
 rw[BitVec.toNat_and,e];have:(BitVec.ofInt 64 1).toNat=1:=by decide
 rw[this,Nat.and_one_is_mod];exact mS _ (by omega)
theorem zo(x y:Nat)(h:x<4294967296)(h':y<4294967296):bits .xor .i64 (x:Int) (y:Int)=((x ^^^ y:Nat):Int):=by
 have e:∀z:Nat,z<4294967296->(BitVec.ofInt 64 (z:Int)).toNat=z:=fun z hz=>by rw[BitVec.toNat_ofInt];omega
 show IntKind.i64.wrap ((BitVec.ofInt 64 (x:Int) ^^^ BitVec.ofInt 64 (y:Int)).toNat:Int)=_
 rw[BitVec.toNat_xor,e x h,e y h'];have:=Nat.xor_lt_two_pow (n:=32) h h';exact mS _ (by omega)
theorem nr(b d:Nat)(z:Int)(hz:z=((b/d:Nat):Int))(hb:b<1024)(h:(bits .and .i64 z 1==1)=true):b/d%2=1:=by have:=Nat.div_le_self b d;rw[hz,sZ _ (by omega),beq_iff_eq]at h;omega
theorem m8(b d:Nat)(z:Int)(hz:z=((b/d:Nat):Int))(hb:b<1024)(h:(bits .and .i64 z 1==1)=false):¬b/d%2=1:=by have:=Nat.div_le_self b d;rw[hz,sZ _ (by omega)]at h;intro e;rw[e]at h;cases h
theorem mX(x y:Nat)(z:Int)(hz:z=(y:Int))(h:x<4294967296)(h':y<4294967296):bits .xor .i64 (x:Int) z=((x ^^^ y:Nat):Int):=by rw[hz];exact zo x y h h'
theorem D2(a b:Nat)(w:World)(ha:a<32)(hb:b<32) :
  Calls prog 132 #[A B (a:Int),A B (b:Int)] w fun e w'=>e=.returned (A B (kX a b))/\w'=w:=by
 have ca:iU (a:Int)=true:=by simp[iU];omega
 have cb:iU (b:Int)=true:=by simp[iU];omega
 have H1:=zZ (fun k (hk:k<6)=>Lo ⟨a,ha⟩ ⟨b,hb⟩ ⟨k,hk⟩);simp only at H1;go_enter func132,ntmps132
 go_wp2_with fail;refine (dM (a:Int) _ (by omega) (by omega)).mono ?_;rintro e w1 ⟨rfl,rfl⟩;rw[ca];go_wp2_with fail;refine (dM (b:Int) _ (by omega) (by omega)).mono ?_;rintro e w1 ⟨rfl,rfl⟩;rw[cb];go_wp2_with fail;go_loopw [5,6] (fun o i wr=>∃(k y:Nat),k<=5/\i=A B k/\o=A B y/\y<512/\Hid (y=r1 a b k)/\wr=w) (fun _ i _=>5-(intOf i).toNat)
 case atStart=>exact⟨0,0,by omega,rfl,rfl,by omega,rfl,rfl⟩
 case round =>
  obtain⟨k,y,hk,rfl,rfl,hy,HY,rfl⟩:=hrel;have h6:k=0\/k=1\/k=2\/k=3\/k=4\/k=5:=by omega
  rcases h6 with rfl|rfl|rfl|rfl|rfl|rfl
  ·go_wp2_with fail
   ·rename_i h
    have hc:=nr b 1 _ (by omega) (by omega) h;have e:r1 a b 1=y ^^^ (a*1):=by rw[HY.out];show (if _ then _ else _)=_;rw[if_pos hc]
    exact⟨⟨1,r1 a b 1,by omega,rfl,congrArg (Value.int .i64) (by rw[e];exact mX _ _ _ (by omega) (by omega) (by omega)),H1.out 1 (by omega),rfl,trivial⟩,by decide⟩
   ·rename_i h
    have hc:=m8 b 1 _ (by omega) (by omega) h;have e:r1 a b 1=y:=by rw[HY.out];show (if _ then _ else _)=_;rw[if_neg hc]
    exact⟨⟨1,r1 a b 1,by omega,rfl,congrArg (Value.int .i64) (by rw[e]),H1.out 1 (by omega),rfl,trivial⟩,by decide⟩
  ·go_wp2_with fail
   ·rename_i h
    have hc:=nr b 2 _ (by omega) (by omega) h;have e:r1 a b 2=y ^^^ (a*2):=by rw[HY.out];show (if _ then _ else _)=_;rw[if_pos hc]
    exact⟨⟨2,r1 a b 2,by omega,rfl,congrArg (Value.int .i64) (by rw[e];exact mX _ _ _ (by omega) (by omega) (by omega)),H1.out 2 (by omega),rfl,trivial⟩,by decide⟩
   ·rename_i h
    have hc:=m8 b 2 _ (by omega) (by omega) h;have e:r1 a b 2=y:=by rw[HY.out];show (if _ then _ else _)=_;rw[if_neg hc]
    exact⟨⟨2,r1 a b 2,by omega,rfl,congrArg (Value.int .i64) (by rw[e]),H1.out 2 (by omega),rfl,trivial⟩,by decide⟩
  ·go_wp2_with fail
   ·rename_i h
    have hc:=nr b 4 _ (by omega) (by omega) h;have e:r1 a b 3=y ^^^ (a*4):=by rw[HY.out];show (if _ then _ else _)=_;rw[if_pos hc]
    exact⟨⟨3,r1 a b 3,by omega,rfl,congrArg (Value.int .i64) (by rw[e];exact mX _ _ _ (by omega) (by omega) (by omega)),H1.out 3 (by omega),rfl,trivial⟩,by decide⟩
   ·rename_i h
    have hc:=m8 b 4 _ (by omega) (by omega) h;have e:r1 a b 3=y:=by rw[HY.out];show (if _ then _ else _)=_;rw[if_neg hc]
    exact⟨⟨3,r1 a b 3,by omega,rfl,congrArg (Value.int .i64) (by rw[e]),H1.out 3 (by omega),rfl,trivial⟩,by decide⟩
  ·go_wp2_with fail
   ·rename_i h
    have hc:=nr b 8 _ (by omega) (by omega) h;have e:r1 a b 4=y ^^^ (a*8):=by rw[HY.out];show (if _ then _ else _)=_;rw[if_pos hc]
    exact⟨⟨4,r1 a b 4,by omega,rfl,congrArg (Value.int .i64) (by rw[e];exact mX _ _ _ (by omega) (by omega) (by omega)),H1.out 4 (by omega),rfl,trivial⟩,by decide⟩
   ·rename_i h
    have hc:=m8 b 8 _ (by omega) (by omega) h;have e:r1 a b 4=y:=by rw[HY.out];show (if _ then _ else _)=_;rw[if_neg hc]
    exact⟨⟨4,r1 a b 4,by omega,rfl,congrArg (Value.int .i64) (by rw[e]),H1.out 4 (by omega),rfl,trivial⟩,by decide⟩
  ·go_wp2_with fail
   ·rename_i h
    have hc:=nr b 16 _ (by omega) (by omega) h;have e:r1 a b 5=y ^^^ (a*16):=by rw[HY.out];show (if _ then _ else _)=_;rw[if_pos hc]
    exact⟨⟨5,r1 a b 5,by omega,rfl,congrArg (Value.int .i64) (by rw[e];exact mX _ _ _ (by omega) (by omega) (by omega)),H1.out 5 (by omega),rfl,trivial⟩,by decide⟩
   ·rename_i h
    have hc:=m8 b 16 _ (by omega) (by omega) h;have e:r1 a b 5=y:=by rw[HY.out];show (if _ then _ else _)=_;rw[if_neg hc]
    exact⟨⟨5,r1 a b 5,by omega,rfl,congrArg (Value.int .i64) (by rw[e]),H1.out 5 (by omega),rfl,trivial⟩,by decide⟩
  ·have HX:=HY;generalize hx:y=x at HX;have hx5:x<512:=by omega
   have H2:=zZ (fun k (hk:k<5)=>KZ ⟨x,hx5⟩ ⟨k,hk⟩);simp only at H2;subst hx;obtain⟨x,hx⟩:=nm y;rw[<-hx]at H2 HX;have HXY:=zZ hx;clear hx HY hx5 hk;go_wp2_with fail;go_loopw [5,7] (fun o i wr'=>∃(m y:Nat),m<=4/\i=A B (8-(m:Int))/\o=A B y/\y<512/\Hid (y=r2 x m)/\wr'=wr) (fun _ i _=>(intOf i).toNat)
   case atStart=>exact⟨0,y,by omega,rfl,rfl,by omega,HXY.out.symm,rfl⟩
   case round =>
    clear hy HXY;obtain⟨m,y,hk,rfl,rfl,hy,HY,rfl⟩:=hrel;have h6:m=0\/m=1\/m=2\/m=3\/m=4:=by omega
    rcases h6 with rfl|rfl|rfl|rfl|rfl
    ·go_wp2_with fail
     ·rename_i h
      have hc:=nr y 256 _ (by omega) (by omega) h;have e:r2 x 1=y ^^^ 296:=by rw[HY.out]at hc⊢;show (if _ then _ else _)=_;rw[if_pos hc]
      exact⟨⟨1,r2 x 1,by omega,rfl,congrArg (Value.int .i64) (by rw[e];exact mX _ _ _ (by omega) (by omega) (by omega)),H2.out 1 (by omega),rfl,trivial⟩,by decide⟩
     ·rename_i h
      have hc:=m8 y 256 _ (by omega) (by omega) h;have e:r2 x 1=y:=by rw[HY.out]at hc⊢;show (if _ then _ else _)=_;rw[if_neg hc]
      exact⟨⟨1,r2 x 1,by omega,rfl,congrArg (Value.int .i64) (by rw[e]),H2.out 1 (by omega),rfl,trivial⟩,by decide⟩
    ·go_wp2_with fail
     ·rename_i h
      have hc:=nr y 128 _ (by omega) (by omega) h;have e:r2 x 2=y ^^^ 148:=by rw[HY.out]at hc⊢;show (if _ then _ else _)=_;rw[if_pos hc]
      exact⟨⟨2,r2 x 2,by omega,rfl,congrArg (Value.int .i64) (by rw[e];exact mX _ _ _ (by omega) (by omega) (by omega)),H2.out 2 (by omega),rfl,trivial⟩,by decide⟩
     ·rename_i h
      have hc:=m8 y 128 _ (by omega) (by omega) h;have e:r2 x 2=y:=by rw[HY.out]at hc⊢;show (if _ then _ else _)=_;rw[if_neg hc]
      exact⟨⟨2,r2 x 2,by omega,rfl,congrArg (Value.int .i64) (by rw[e]),H2.out 2 (by omega),rfl,trivial⟩,by decide⟩
    ·go_wp2_with fail
     ·rename_i h
      have hc:=nr y 64 _ (by omega) (by omega) h;have e:r2 x 3=y ^^^ 74:=by rw[HY.out]at hc⊢;show (if _ then _ else _)=_;rw[if_pos hc]
      exact⟨⟨3,r2 x 3,by omega,rfl,congrArg (Value.int .i64) (by rw[e];exact mX _ _ _ (by omega) (by omega) (by omega)),H2.out 3 (by omega),rfl,trivial⟩,by decide⟩
     ·rename_i h
      have hc:=m8 y 64 _ (by omega) (by omega) h;have e:r2 x 3=y:=by rw[HY.out]at hc⊢;show (if _ then _ else _)=_;rw[if_neg hc]
      exact⟨⟨3,r2 x 3,by omega,rfl,congrArg (Value.int .i64) (by rw[e]),H2.out 3 (by omega),rfl,trivial⟩,by decide⟩
    ·go_wp2_with fail
     ·rename_i h
      have hc:=nr y 32 _ (by omega) (by omega) h;have e:r2 x 4=y ^^^ 37:=by rw[HY.out]at hc⊢;show (if _ then _ else _)=_;rw[if_pos hc]
      exact⟨⟨4,r2 x 4,by omega,rfl,congrArg (Value.int .i64) (by rw[e];exact mX _ _ _ (by omega) (by omega) (by omega)),H2.out 4 (by omega),rfl,trivial⟩,by decide⟩
     ·rename_i h
      have hc:=m8 y 32 _ (by omega) (by omega) h;have e:r2 x 4=y:=by rw[HY.out]at hc⊢;show (if _ then _ else _)=_;rw[if_neg hc]
      exact⟨⟨4,r2 x 4,by omega,rfl,congrArg (Value.int .i64) (by rw[e]),H2.out 4 (by omega),rfl,trivial⟩,by decide⟩
    ·go_wp2_with fail;go_ret
     exact⟨ag (by rw[HY.out,HX.out,LJ ⟨a,ha⟩ ⟨b,hb⟩,lC a b ha hb]),rfl⟩
theorem xz(a b:Int)(w:World)(h1:-9223372036854775808<=a)(h2:a<=9223372036854775807)(h3:-9223372036854775808<=b)(h4:b<=9223372036854775807) :
  Calls prog 132 #[A B a,A B b] w fun e w'=>e=.returned (A B (kX a b))/\w'=w:=by
 rcases yS (iU a) with ca|ca
 ·rcases yS (iU b) with cb|cb
  ·unfold iU at ca cb;simp only[yT,decide_eq_true_eq]at ca cb;obtain⟨x,rfl⟩:=zG ca.1;obtain⟨y,rfl⟩:=zG cb.1;exact D2 x y w (by omega) (by omega)
  ·have HZ:Hid (kX a b=0):=by show _=_;unfold kX;rw[cb];simp
   go_enter func132,ntmps132
   go_wp2_with fail;refine (dM a _ (by omega) (by omega)).mono ?_;rintro e w1 ⟨rfl,rfl⟩;rw[ca];go_wp2_with fail;refine (dM b _ (by omega) (by omega)).mono ?_;rintro e w1 ⟨rfl,rfl⟩;rw[cb];go_wp2_with fail;go_ret
   exact⟨ag HZ.out.symm,rfl⟩
 ·have HZ:Hid (kX a b=0):=by show _=_;unfold kX;rw[ca];simp
  go_enter func132,ntmps132
  go_wp2_with (go_at_call 93;refine (dM a _ (by omega) (by omega)).mono ?_;rintro e w1 ⟨rfl,rfl⟩;rw[ca]);go_ret
  exact⟨ag HZ.out.symm,rfl⟩
theorem nK{P:Program}{ops:Array Oper}{rest:List Oper}{o:Oper}{a:Act}{Q:Exit->Act->World->Prop}(hg:o.guard=none)(t:TypeId)(parts:Array (Nat×Operand))(ho:o.op=.build t parts)(cells:Array Value)(hb:P.built t (parts.map fun (i,x)=>(i,a.eval x)).toList=some cells)(h:wpList P ops Q rest (a.put o.dst (.agg cells)) w):wpList P ops Q (o::rest) a w :=
 wpList_build hg t parts ho (by rw[hb];rfl) (by rw[hb];exact h)
theorem EN{P:Program}(w:World)(t:TypeId)(z cells:Array Value)(ho:z.size=cells.size)(h1:cells.all (·.oneCell')=true) :
  ∃W,(storeCells ⟨w.heap.size,0,none⟩ cells.toList).run P (w.alloc (.cells z t))=.ok () W/\W.heap[w.heap.size]?=some (.cells cells t (0,0))/\ab w W:=by
 have hg:(w.alloc (.cells z t)).heap[w.heap.size]?=some (.cells z t (0,0)):=heap_alloc_new w _;have hs:=run_storeCells_from (P:=P) w.heap.size t cells.toList 0 z (w.alloc (.cells z t)) hg (by simp;omega) (fun v hv=>(Array.all_eq_true_iff_forall_mem.1 h1) v (by simpa using hv));have e:(z.toList.take 0++cells.toList).toArray=cells:=by simp
 rw[e]at hs;refine⟨_,hs,setRow_heap _ _ _ _ _ _ hg,?_⟩;have h:=(zE w).alloc (.cells z t);exact⟨h.os,h.tape,h.output,by simp,fun k hk=>by rw[setRow_other _ _ _ _ (by omega)];exact h.block k hk⟩
theorem GX:∀(a b:Fin 32),o7 a.val b.val=1->((b.val:Nat):Int)=sc (a.val:Int):=by decide +kernel
theorem Kk:∀(a:Fin 32),(∀b:Fin 32,o7 a.val b.val≠1)->sc (a.val:Int)=0:=by decide +kernel
theorem ES(a:Nat):o7 a 0=0:=by unfold o7;split<;>simp
theorem tO(a:Int)(w:World)(h1:-9223372036854775808<=a)(h2:a<=9223372036854775807) :
  Calls prog 131 #[A B a] w fun e w'=>e=.returned (A B (sc a))/\w'=w:=by
 go_enter func131,ntmps131
 go_wp2_with fail;go_loopw [3] (fun i wr=>∃(k:Nat),1<=k/\k<=32/\i=A B k/\Hid (∀j:Nat,1<=j->j<k->kX a j≠1)/\wr=w) (fun i _=>32-(intOf i).toNat)
 case atStart=>exact⟨1,by omega,by omega,rfl,fun j h1 h2=>by omega,rfl⟩
 case round =>
  obtain⟨k,hk1,hk,rfl,HK,rfl⟩:=hrel;by_cases h5:k<32
  ·by_cases c:kX a k=1
   ·have e1:(kX a k==1)=true:=by simp[c]
    have HC:=zZ c;clear c;go_wp2_with (go_at_call 132;refine (xz a k _ (by omega) (by omega) (by omega) (by omega)).mono ?_;rintro e w1 ⟨rfl,rfl⟩);go_ret
    refine⟨ag ?_,rfl⟩;have h:=HC.out;have hm:(iU a&&iU k)=true:=by
     unfold kX at h;split at h
     ·assumption
     ·cases h
    have ea:iU a=true:=by simp only[yT]at hm;exact hm.1
    unfold iU at ea;simp only[yT,decide_eq_true_eq]at ea;obtain⟨x,rfl⟩:=zG ea.1;rw[lC x k (by omega) h5]at h;exact GX ⟨x,by omega⟩ ⟨k,h5⟩ (by simp only;omega)
   ·have e1:(kX a k==1)=false:=by simp[c]
    have HC:=zZ c;clear c;go_wp2_with (go_at_call 132;refine (xz a k _ (by omega) (by omega) (by omega) (by omega)).mono ?_;rintro e w1 ⟨rfl,rfl⟩);go_roundw
    case rel =>
     refine⟨k+1,by omega,by omega,by go_num,fun j h1 h2=>?_,trivial⟩;by_cases e:j=k
     ·subst e;exact HC.out
     ·exact HK.out j h1 (by omega)
    case measure=>simp[intOf];omega
  ·obtain rfl:k=32:=by omega
   go_wp2_with fail;go_ret
   refine⟨ag ?_,rfl⟩;rcases yS (iU a) with ca|ca
   ·unfold iU at ca;simp only[yT,decide_eq_true_eq]at ca;obtain⟨x,rfl⟩:=zG ca.1;refine (Kk ⟨x,by omega⟩ fun b hb=>?_).symm;by_cases e:b.val=0
    ·rw[e,ES]at hb;cases hb
    ·refine HK.out b.val (by omega) b.isLt ?_;rw[lC x b.val (by omega) b.isLt];simp only at hb;rw[hb];rfl
   ·unfold sc;rw[ca];rfl
theorem CA(n:Int)(w:World)(h1:-9223372036854775808<=n)(h2:n<=9223372036854775807) :
  Calls prog 129 #[A B n] w fun e w'=>e=.returned (A B (Anw n))/\ab w w':=by
 have h0:0<=n%31:=Int.emod_nonneg _ (by decide);have h31:n%31<31:=Int.emod_lt_of_pos _ (by decide);have hb1:-31<n.tmod 31:=Int.lt_tmod_of_pos n (by decide);have hb2:n.tmod 31<31:=Int.tmod_lt_of_pos n (by decide);have HE:Hid (n.tmod 31=n%31\/n.tmod 31+31=n%31):=by
  have:=@Int.tmod_eq_emod n 31;show _\/_
  split at this<;>omega
 obtain⟨k,hk⟩:∃k:Nat,n%31=k:=⟨(n%31).toNat,by omega⟩
 have hk31:k<31:=by omega
 have HP:Hid (((tC.getD k 0:Nat):Int)=Anw n):=by
  show _=_
  unfold Anw;rw[hk];rfl
 obtain⟨pc,hpc⟩:=nm ((tC.map fun (n:Nat)=>Value.int .i64 (n:Int)).toArray);have hps:pc.size=31:=by rw[hpc];rfl
 have hp1:pc.all (·.oneCell')=true:=by rw[hpc];decide +kernel
 have hpk:pc[k]?=some (A B ((tC.getD k 0:Nat):Int)):=by rw[hpc,List.getElem?_toArray,zP,xU,zV (show k<tC.length from hk31)];rfl
 have hzv:∀w,(zeroValue 232).run prog w=.ok (.agg (List.replicate 31 (Value.int .i64 0)).toArray) w:=fun _=>by kernel_rfl
 obtain⟨z,hz⟩:=nm ((List.replicate 31 (Value.int .i64 0)).toArray);rw[<-hz]at hzv;have hzs:z.size=31:=by rw[hz];simp
 have HPC:=zZ hpc;clear hz hpc;obtain⟨W,hst,hWb,hWE⟩:=EN (P:=prog) w 232 z pc (by omega) hp1;have HW:=zZ hWE;have hck:=ac hWb hpk;clear hWE hWb;by_cases c:n.tmod 31<0
 ·have e1:n.tmod 31+31=(k:Int):=by have:=HE.out;omega
  clear hk h0 h31;go_enter func129,ntmps129
  go_upto_region 4 with (fail)
  refine wp_region_lit ?_;refine nK rfl 232 _ rfl pc (by rw[HPC.out];kernel_rfl) ?_;go_wp2_with fail;go_ret
  exact⟨ag HP.out,HW.out⟩
 ·have e1:n.tmod 31=(k:Int):=by have:=HE.out;omega
  clear hk h0 h31;go_enter func129,ntmps129
  go_upto_region 4 with (fail)
  refine wp_region_lit ?_;refine nK rfl 232 _ rfl pc (by rw[HPC.out];kernel_rfl) ?_;go_wp2_with fail;go_ret
  exact⟨ag HP.out,HW.out⟩
end Go.Proofs.YtpaidaphacoblaaGreatDoor

namespace Go.Proofs.YtpaidaphacoblaaGreatDoor
open Go.Value renaming int→A
open Go.IntKind renaming i64→B
namespace F
variable {k p r u wd:Nat}
def hY(f:Nat->F):Nat->F|0=>0|k+1=>hY f k+f k
theorem jX{f g:Nat->F}(h:∀c,c<k->f c=g c):hY f k=hY g k:=by
 induction k with
 |zero=>rfl
 |succ k ih=>show _+_=_+_;rw[ih fun c hc=>h c (by omega),h k (by omega)]
theorem zk(f g:Nat->F)(k:Nat):hY (fun c=>f c+g c) k=hY f k+hY g k:=by
 induction k with
 |zero=>show (0:F)=0+0;rw[add_zero]
 |succ k ih=>show hY _ k+(f k+g k)=(hY f k+f k)+(hY g k+g k);rw[ih];ac_rfl
theorem BA(a:F)(f:Nat->F)(k:Nat):hY (fun c=>a*f c) k=a*hY f k:=by
 induction k with
 |zero=>show (0:F)=a*0;rw[eB]
 |succ k ih=>show hY _ k+_=a*(hY f k+f k);rw[ih,pY]
theorem oM{f:Nat->F}(h:∀c,c<k->f c=0):hY f k=0:=by
 induction k with
 |zero=>rfl
 |succ k ih=>show hY f k+f k=0;rw[ih fun c hc=>h c (by omega),h k (by omega),add_zero]
theorem kV{f:Nat->F}{i:Nat}(hi:i<k)(h:∀c,c<k->c≠i->f c=0):hY f k=f i:=by
 induction k with
 |zero=>omega
 |succ k ih =>
  show hY f k+f k=f i
  by_cases e:i=k
  ·subst e;rw[oM fun c hc=>h c (by omega) (by omega),zero_add]
  ·rw[ih (by omega) fun c hc hne=>h c (by omega) hne,h k (by omega) (Ne.symm e),add_zero]
theorem Gn{f:Nat->F}{i j:Nat}(hi:i<k)(hj:j<k)(hij:i≠j)(h:∀c,c<k->c≠i->c≠j->f c=0):hY f k=f i+f j:=by
 have e:hY f k=hY (fun c=>(if c=i then f c else 0)+(if c=i then 0 else f c)) k:=jX fun c _=>by split<;>simp[add_zero,zero_add]
 rw[e,zk,kV hi (fun c _ hne=>if_neg hne),kV (i:=j) hj (fun c hc hne=>by
  split
  ·rfl
  ·rename_i h';exact h c hc h' hne),if_pos rfl,if_neg (Ne.symm hij)]
def xm(M:Nat->Nat->F)(r:Nat)(X:Nat->F)(wd:Nat):F:=hY (fun c=>M r c*X c) wd
def Sol(M:Nat->Nat->F)(X:Nat->F)(wd:Nat):Prop:=∀r,r<6->xm M r X wd=0
def swapM(M:Nat->Nat->F)(k p:Nat):Nat->Nat->F:=fun r c=>if r=k then M p c else if r=p then M k c else M r c
def scaleM(M:Nat->Nat->F)(k:Nat)(s:F):Nat->Nat->F:=fun r c=>if r=k then M r c*s else M r c
def redM(M:Nat->Nat->F)(k:Nat):Nat->Nat->F:=fun r c=>if r=k then M r c else M r c+M r k*M k c
def stepM(M:Nat->Nat->F)(k p:Nat):Nat->Nat->F:=redM (scaleM (swapM M k p) k (M p k).inv) k
def Unit6(M:Nat->Nat->F)(k:Nat):Prop:=∀r c,r<6->c<k->M r c=if r=c then 1 else 0
theorem Ii{M:Nat->Nat->F}{X:Nat->F}(hk:k<6)(hp:p<6):Sol (swapM M k p) X wd↔Sol M X wd:=by
 have hd:∀r,xm (swapM M k p) r X wd=if r=k then xm M p X wd else if r=p then xm M k X wd else xm M r X wd:=fun r=>by
  unfold xm swapM;split
  ·rfl
  ·split<;>rfl
 constructor
 ·intro h r hr;by_cases e:r=k
  ·subst e;have:=h p hp;rw[hd]at this;by_cases e2:p=r
   ·subst e2;rw[if_pos rfl]at this;exact this
   ·rw[if_neg e2,if_pos rfl]at this;exact this
  ·by_cases e2:r=p
   ·subst e2;have:=h k hk;rw[hd,if_pos rfl]at this;exact this
   ·have:=h r hr;rw[hd,if_neg e,if_neg e2]at this;exact this
 ·intro h r hr;rw[hd];split
  ·exact h p hp
  ·split
   ·exact h k hk
   ·exact h r hr
theorem EO{M:Nat->Nat->F}{X:Nat->F}{s:F}(hs:s≠0):Sol (scaleM M k s) X wd↔Sol M X wd:=by
 have hd:∀r,xm (scaleM M k s) r X wd=if r=k then s*xm M r X wd else xm M r X wd:=fun r=>by
  unfold xm scaleM;split
  ·rw[<-BA];exact jX fun c _=>by ac_rfl
  ·rfl
 constructor
 ·intro h r hr;have:=h r hr;rw[hd]at this;split at this
  ·exact (kw _ _ this).resolve_left hs
  ·exact this
 ·intro h r hr;rw[hd,h r hr];split
  ·rw[eB]
  ·rfl
theorem Jr{M:Nat->Nat->F}{X:Nat->F}(hk:k<6):Sol (redM M k) X wd↔Sol M X wd:=by
 have hd:∀r,xm (redM M k) r X wd=if r=k then xm M r X wd else xm M r X wd+M r k*xm M k X wd:=fun r=>by
  unfold xm redM;split
  ·rfl
  ·rw[<-BA,<-zk];exact jX fun c _=>by rw[add_mul,pd]
 constructor
 ·intro h r hr;have h1:=h r hr;rw[hd]at h1;have h2:=h k hk;rw[hd,if_pos rfl]at h2;split at h1
  ·exact h1
  ·rw[h2,eB,add_zero]at h1;exact h1
 ·intro h r hr;rw[hd,h r hr,h k hk,eB,add_zero];split<;>rfl
theorem KN{a:F}(h:a≠0):a.inv≠0:=fun e=>by have:=DC a h;rw[e,eB]at this;exact absurd this (by decide +kernel)
theorem sol_step{M:Nat->Nat->F}{X:Nat->F}(hk:k<6)(hp:p<6)(hn:M p k≠0):Sol (stepM M k p) X wd↔Sol M X wd :=
 (Jr hk).trans ((EO (KN hn)).trans (Ii hk hp))
theorem unit_step{M:Nat->Nat->F}(h:Unit6 M k)(hk:k<6)(hp:p<6)(hkp:k<=p)(hn:M p k≠0):Unit6 (stepM M k p) (k+1):=by
 have hs:∀r c,r<6->c<k->swapM M k p r c=if r=c then 1 else 0:=by
  intro r c hr hc;unfold swapM;split
  ·rename_i e;rw[h p c hp hc,if_neg (by omega),if_neg (by omega)]
  ·split
   ·rw[h k c hk hc,if_neg (by omega),if_neg (by omega)]
   ·exact h r c hr hc
 have hz:∀c,c<k->scaleM (swapM M k p) k (M p k).inv k c=0:=by intro c hc;unfold scaleM;rw[if_pos rfl,hs k c hk hc,if_neg (by omega),zero_mul]
 have hkk:scaleM (swapM M k p) k (M p k).inv k k=1:=by unfold scaleM swapM;rw[if_pos rfl,if_pos rfl,DC _ hn]
 intro r c hr hc;unfold stepM redM;rcases zU c k with hck|hck
 ·rw[hz c hck,eB,add_zero];have:scaleM (swapM M k p) k (M p k).inv r c=if r=c then 1 else 0:=by
   by_cases e:r=k
   ·subst e;rw[hz c hck,if_neg (by omega)]
   ·unfold scaleM;rw[if_neg e];exact hs r c hr hck
  rw[this];split<;>rfl
 ·obtain rfl:c=k:=by omega
  split
  ·rename_i e;subst e;rw[hkk]
  ·rename_i e;rw[hkk,mul_one,add_self]
theorem pivot_ex{M:Nat->Nat->F}(hu:k<u)(hu6:u<=6)(h:Unit6 M k)(ind:∀X,Sol M X (u+1)->X u=0->∀c,c<u->X c=0):∃p,k<=p/\p<6/\M p k≠0:=by
 rcases Classical.em (∃p,k<=p/\p<6/\M p k≠0) with h0|hno
 ·exact h0
 ·exfalso;have hz:∀p,k<=p->p<6->M p k=0:=fun p h1 h2=>Classical.byContradiction fun hne=>hno ⟨p,h1,h2,hne⟩;have:=ind (fun c=>if c<k then M c k else if c=k then 1 else 0) (fun r hr=>by
   unfold xm;rcases zU r k with hrk|hrk
   ·rw[Gn (i:=r) (j:=k) (by omega) (by omega) (by omega)]
    ·simp only[if_pos hrk,Nat.lt_irrefl,if_false,if_true,h r r hr hrk,one_mul,mul_one,add_self]
    ·intro c hc h1 h2;by_cases e:c<k
     ·rw[h r c hr e,if_neg (by omega),zero_mul]
     ·simp only[if_neg e,if_neg h2,eB]
   ·refine oM fun c hc=>?_;by_cases e:c<k
    ·rw[h r c hr e,if_neg (by omega),zero_mul]
    ·by_cases e2:c=k
     ·subst e2;rw[hz r hrk hr,zero_mul]
     ·simp only[if_neg e,if_neg e2,eB]) (by simp only[if_neg (show ¬u<k by omega),if_neg (show u≠k by omega)]) k hu
  simp only[Nat.lt_irrefl,if_false,if_true]at this;exact absurd this (by decide +kernel)
theorem qS{M:Nat->Nat->F}(h:Unit6 M u)(hu:u<=6)(hr:r<6)(X:Nat->F)(h1:X u=1):xm M r X (u+1)=(if r<u then X r else 0)+M r u:=by
 show hY (fun c=>M r c*X c) u+M r u*X u=_
 rw[h1,mul_one];congr 1
 split
 ·rename_i e
  rw[kV e]
  ·rw[h r r hr e,if_pos rfl,one_mul]
  ·intro c hc hne;rw[h r c hr hc,if_neg (Ne.symm hne),zero_mul]
 ·rename_i e
  exact oM fun c hc=>by rw[h r c hr hc,if_neg (by omega),zero_mul]
theorem yx{M:Nat->Nat->F}(h:Unit6 M u)(hu:u<=6)(X:Nat->F)(h1:X u=1):Sol M X (u+1)↔(∀c,c<u->X c=M c u)/\(∀r,u<=r->r<6->M r u=0):=by
 constructor
 ·intro hs;refine⟨fun c hc=>?_,fun r h2 h3=>?_⟩
  ·have:=hs c (by omega);rw[qS h hu (by omega) X h1,if_pos hc]at this;exact ly this
  ·have:=hs r h3;rw[qS h hu h3 X h1,if_neg (by omega),zero_add]at this;exact this
 ·intro⟨ha,hb⟩ r hr;rw[qS h hu hr X h1];split
  ·rename_i e;rw[ha r e,add_self]
  ·rename_i e;rw[hb r (by omega) hr,add_zero]
def rowI(M:Nat->Nat->F)(wd r:Nat):List Int:=(List.range wd).map fun c=>((M r c).n:Int)
def matI(M:Nat->Nat->F)(wd:Nat):List (List Int):=(List.range 6).map (rowI M wd)
def upd(M:Nat->Nat->F)(r c:Nat)(y:F):Nat->Nat->F:=fun r' c'=>if r'=r/\c'=c then y else M r' c'
theorem rowI_len(M:Nat->Nat->F)(wd r:Nat):(rowI M wd r).length=wd:=by simp[rowI]
theorem matI_len(M:Nat->Nat->F)(wd:Nat):(matI M wd).length=6:=by simp[matI]
theorem matI_at{M:Nat->Nat->F}(h:r<6):(matI M wd)[r]?=some (rowI M wd r):=by unfold matI;rw[zP,wJ h];rfl
theorem rowI_at{M:Nat->Nat->F}{c:Nat}(h:c<wd):(rowI M wd r)[c]?=some ((M r c).n:Int):=by unfold rowI;rw[zP,wJ h];rfl
def scaleTo(M:Nat->Nat->F)(k:Nat)(s:F)(c:Nat):Nat->Nat->F:=fun r' c'=>if r'=k/\c'<c then M r' c'*s else M r' c'
theorem scaleTo_zero(M:Nat->Nat->F)(k:Nat)(s:F):scaleTo M k s 0=M:=by funext r c;simp[scaleTo]
theorem scaleTo_succ(M:Nat->Nat->F)(k:Nat)(s:F)(c:Nat):upd (scaleTo M k s c) k c (M k c*s)=scaleTo M k s (c+1):=by
 funext r' c'
 unfold upd scaleTo;by_cases e:r'=k/\c'=c
 ·obtain⟨rfl,rfl⟩:=e;simp
 ·rw[if_neg e];by_cases e2:r'=k/\c'<c
  ·rw[if_pos e2,if_pos ⟨e2.1,by omega⟩]
  ·rw[if_neg e2,if_neg (fun h=>e2 ⟨h.1,by have:c'≠c:=fun h'=>e ⟨h.1,h'⟩;omega⟩)]
def redTo(M:Nat->Nat->F)(k r c:Nat):Nat->Nat->F:=fun r' c'=>if r'≠k/\(r'<r\/r'=r/\c'<c) then M r' c'+M r' k*M k c' else M r' c'
theorem redTo_zero(M:Nat->Nat->F)(k:Nat):redTo M k 0 0=M:=by funext r c;simp[redTo]
theorem redTo_succ(M:Nat->Nat->F)(k r c:Nat)(h:r≠k):upd (redTo M k r c) r c (M r c+M r k*M k c)=redTo M k r (c+1):=by
 funext r' c'
 unfold upd redTo;by_cases e:r'=r/\c'=c
 ·obtain⟨rfl,rfl⟩:=e;rw[if_pos ⟨rfl,rfl⟩,if_pos ⟨h,.inr ⟨rfl,by omega⟩⟩]
 ·rw[if_neg e];by_cases e2:r'≠k/\(r'<r\/r'=r/\c'<c)
  ·rw[if_pos e2,if_pos ⟨e2.1,by omega⟩]
  ·rw[if_neg e2,if_neg (fun h'=>e2 ⟨h'.1,by
    rcases h'.2 with h2|h2
    ·exact .inl h2
    ·refine .inr ⟨h2.1,?_⟩;have:c'≠c:=fun h3=>e ⟨h2.1,h3⟩;omega⟩)]
end F
end Go.Proofs.YtpaidaphacoblaaGreatDoor

