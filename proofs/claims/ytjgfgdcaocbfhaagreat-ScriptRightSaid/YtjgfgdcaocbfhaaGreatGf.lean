import Derived.Test.YtjgfgdcaocbfhaaGreatH0
set_option linter.all false
set_option maxRecDepth 100000
set_option maxHeartbeats 0
namespace Go.Proofs.YtjgfgdcaocbfhaaGreat
def Df:List Nat:=[1,2,4,8,16,5,10,20,13,26,17,7,14,28,29,31,27,19,3,6,12,24,21,15,30,25,23,11,22,9,18]
def Hq:List Nat:=[0,0,1,18,2,5,19,11,3,29,6,27,20,8,12,23,4,10,30,17,7,22,28,26,21,25,9,16,13,14,24,15]
def qm(a b:Nat):Nat:=if a=0 then 0 else if b=0 then 0 else Df.getD ((Hq.getD a 0+Hq.getD b 0)%31) 0
def F:Type:=Fin 32
namespace F
instance:DecidableEq F:=inferInstanceAs (DecidableEq (Fin 32))
instance {p:F→Prop} [h:DecidablePred p]:Decidable (∀a,p a):=@Nat.decidableForallFin 32 p h
def n(a:F):Nat:=Fin.val a
def mk(a:Nat)(h:a<32):F:=(⟨a,h⟩:Fin 32)
theorem lt(a:F):a.n<32:=Fin.isLt a
theorem n_mk(a:Nat)(h:a<32):(mk a h).n=a:=rfl
theorem ext{a b:F}(h:a.n=b.n):a=b:=Fin.ext h
instance:Zero F:=⟨mk 0 (by decide)⟩
instance:One F:=⟨mk 1 (by decide)⟩
instance:Inhabited F:=⟨0⟩
instance:Add F:=⟨fun a b=>mk (a.n ^^^ b.n) (Nat.xor_lt_two_pow (n:=5) a.lt b.lt)⟩
instance:Mul F:=⟨fun a b=>mk (qm a.n b.n%32) (xD _ (by decide))⟩
theorem n_zero:(0:F).n=0:=rfl
theorem n_add(a b:F):(a+b).n=a.n ^^^ b.n:=rfl
theorem F5:∀a b:F,qm a.n b.n<32:=by decide +kernel
theorem n_mul(a b:F):(a*b).n=qm a.n b.n:=Nat.mod_eq_of_lt (F5 a b)
theorem add_comm(a b:F):a+b=b+a:=ext (by rw[n_add,n_add,Nat.xor_comm])
theorem add_assoc(a b c:F):a+b+c=a+(b+c):=ext (by simp only[n_add,Nat.xor_assoc])
theorem zero_add(a:F):0+a=a:=ext (by rw[n_add,n_zero,Nat.zero_xor])
theorem add_zero(a:F):a+0=a:=ext (by rw[n_add,n_zero,Nat.xor_zero])
theorem et(a:F):a+a=0:=ext (by rw[n_add,n_zero,Nat.xor_self])
theorem mul_comm:∀a b:F,a*b=b*a:=by decide +kernel
theorem mG:∀a b c:F,a*b*c=a*(b*c):=by decide +kernel
theorem nI:∀a b c:F,a*(b+c)=a*b+a*c:=by decide +kernel
theorem one_mul:∀a:F,1*a=a:=by decide +kernel
theorem zero_mul:∀a:F,0*a=0:=by decide +kernel
theorem jn:∀a b:F,a*b=0→a=0∨b=0:=by decide +kernel
theorem add_mul(a b c:F):(a+b)*c=a*c+b*c:=by rw[mul_comm,nI,mul_comm c a,mul_comm c b]
theorem mul_one(a:F):a*1=a:=by rw[mul_comm,one_mul]
theorem dZ(a:F):a*0=0:=by rw[mul_comm,zero_mul]
instance:Std.Associative (α:=F) (·+·):=⟨add_assoc⟩
instance:Std.Commutative (α:=F) (·+·):=⟨add_comm⟩
instance:Std.Associative (α:=F) (·*·):=⟨mG⟩
instance:Std.Commutative (α:=F) (·*·):=⟨mul_comm⟩
theorem wm(a b:F):a+(a+b)=b:=by rw[←add_assoc,et,zero_add]
theorem jR{a b:F}(h:a+b=0):a=b:=by have:=congrArg (·+b) h;simp only[add_assoc,et,add_zero,zero_add]at this;exact this
def inv(a:F):F:=mk ((if a.n=0 then 0 else Df.getD ((31-Hq.getD a.n 0)%31) 0)%32) (xD _ (by decide))
theorem n_inv:∀a:F,a.inv.n=if a.n=0 then 0 else Df.getD ((31-Hq.getD a.n 0)%31) 0:=by decide +kernel
theorem By:∀a:F,a≠0→a*a.inv=1:=by decide +kernel
def gp(k:Nat):F:=mk (Df.getD (k%31) 0%32) (xD _ (by decide))
theorem Ib:∀k:Fin 31,Df.getD k.val 0<32:=by decide +kernel
theorem n_gp(k:Nat):(gp k).n=Df.getD (k%31) 0:=Nat.mod_eq_of_lt (Ib ⟨k%31,xD _ (by decide)⟩)
theorem pk(k:Nat):gp (k%31)=gp k:=ext (by rw[n_gp,n_gp,Nat.mod_mod])
theorem Fv:∀a b:Fin 31,gp (a.val+b.val)=gp a.val*gp b.val:=by decide +kernel
theorem GZ(a b:Nat):gp (a+b)=gp a*gp b:=by rw[←pk a,←pk b,←pk (a+b),Nat.add_mod,pk];exact Fv ⟨a%31,xD _ (by decide)⟩ ⟨b%31,xD _ (by decide)⟩
theorem Fk:gp 0=1:=by decide +kernel
theorem GT:∀a:Fin 31,gp a.val≠0:=by decide +kernel
theorem GC(a:Nat):gp a≠0:=by rw[←pk];exact GT ⟨a%31,xD _ (by decide)⟩
theorem Fz:∀a b:Fin 31,gp a.val=gp b.val→a=b:=by decide +kernel
theorem EJ{a b:Nat}(ha:a<31)(hb:b<31)(h:gp a=gp b):a=b:=by have:=Fz ⟨a,ha⟩ ⟨b,hb⟩ h;exact congrArg Fin.val this
def pwr(x:F):Nat→F|0=>1|k+1=>pwr x k*x
theorem F9(x:F)(a b:Nat):pwr x (a+b)=pwr x a*pwr x b:=by
 induction b with
 |zero=>rw[yP];show _=_*1;rw[mul_one]
 |succ b ih=>rw[←Nat.add_assoc];show pwr x (a+b)*x=_*(pwr x b*x);rw[ih,mG]
theorem vy(e j:Nat):pwr (gp e) j=gp (j*e):=by
 induction j with
 |zero=>rw[Nat.zero_mul,Fk];rfl
 |succ j ih=>rw[Nat.succ_mul,GZ,←ih];rfl
theorem pwr_one(x:F):pwr x 1=x:=by show 1*x=x;rw[one_mul]
def mX:List (F×F)→Nat→F
 |[],_=>0
 |(c,x)::l,j=>c*pwr x j+mX l j
theorem Fd(l:List (F×F))(y:F)(j:Nat):mX (l.map fun p=>(p.1*(p.2+y),p.2)) j=mX l (j+1)+y*mX l j:=by
 induction l with
 |nil=>simp[mX,dZ,add_zero]
 |cons p l ih =>
  obtain⟨c,x⟩:=p;simp only[xI,mX];rw[ih];simp only[pwr,nI,add_mul];ac_rfl
theorem sY:∀(k:Nat) (l:List (F×F)),l.length=k→(l.map Prod.snd).Nodup→(∀p∈l,p.2≠0)→(∀j,1≤j→j≤k→mX l j=0)→∀p∈l,p.1=0:=by
 intro k;induction k with
 |zero=>intro l hl _ _ _ p hp;rw[yO hl]at hp;cases hp
 |succ k ih =>
  intro l hl hn hz hm;match l,hl with
  |(c,x)::t,hl =>
   have hlt:t.length=k:=by simpa using hl
   have hnx:x ∉ t.map Prod.snd∧(t.map Prod.snd).Nodup:=by simpa using hn
   have hmt:∀j,1≤j→j≤k+1→mX t j=c*pwr x j:=fun j h1 h2=>by have:=hm j h1 h2;simp only[mX]at this;exact (jR this).symm
   have h1:=ih (t.map fun p=>(p.1*(p.2+x),p.2)) (by simpa using hlt) (by simpa[List.map_map,Function.comp_def] using hnx.2)
    (by intro p hp;simp only[zJ]at hp;obtain⟨q,hq,rfl⟩:=hp;exact hz q (wV _ hq))
    (by
     intro j h1 h2;rw[Fd,hmt _ (by omega) (by omega),hmt _ h1 (by omega)];show c*(pwr x j*x)+x*(c*pwr x j)=0
     rw[show x*(c*pwr x j)=c*(pwr x j*x) by ac_rfl,et])
   have ht:∀q∈t,q.1=0:=by
    intro q hq;have:=h1 (q.1*(q.2+x),q.2) (zJ.2 ⟨q,hq,rfl⟩);rcases jn _ _ this with h|h
    ·exact h
    ·exact absurd (jR h) (fun e=>hnx.1 (zJ.2 ⟨q,hq,e⟩))
   have hmz:∀(l:List (F×F)) j,(∀q∈l,q.1=0)→mX l j=0:=by
    intro l j;induction l with
    |nil=>intro _;rfl
    |cons q l ih' =>
     intro h;obtain⟨d,y⟩:=q;simp only[mX];rw[show d=0 from h (d,y) (wU),zero_mul,zero_add];exact ih' (fun q hq=>h q (wV _ hq))
   have hc:c=0:=by
    have:=hmt 1 (by omega) (by omega);rw[hmz t 1 ht,pwr_one]at this;rcases jn _ _ this.symm with h|h
    ·exact h
    ·exact absurd h (hz (c,x) wU)
   intro p hp;rcases yG.1 hp with rfl|hp
   ·exact hc
   ·exact ht p hp
def ev(x:F):List F→F
 |[]=>0
 |c::w=>c*pwr x w.length+ev x w
theorem ev_app(x:F)(a b:List F):ev x (a++b)=ev x a*pwr x b.length+ev x b:=by
 induction a with
 |nil=>simp[ev,zero_mul,zero_add]
 |cons c a ih =>
  simp only[List.cons_append,ev,ih,zI,F9,add_mul];ac_rfl
theorem FD(x:F)(k:Nat):ev x (List.replicate k 0)=0:=by
 induction k with
 |zero=>rfl
 |succ k ih=>simp only[List.replicate_succ,ev,ih,zero_mul,zero_add]
def diffs:List F→List F→List (F×F)
 |c::a,d::b=>if c=d then diffs a b else (c+d,gp a.length)::diffs a b
 |_,_=>[]
theorem rl(j:Nat):∀(a b:List F),a.length=b.length→mX (diffs a b) j=ev (gp j) a+ev (gp j) b
 |[],[],_=>by simp[diffs,mX,ev,add_zero]
 |c::a,d::b,h=>by
  have hl:a.length=b.length:=by simpa using h
  have ih:=rl j a b hl;unfold diffs;split
  ·rename_i e
   subst e;rw[ih];simp only[ev,hl];rw[show c*pwr (gp j) b.length+ev (gp j) a+(c*pwr (gp j) b.length+ev (gp j) b)=(c*pwr (gp j) b.length+c*pwr (gp j) b.length)+(ev (gp j) a+ev (gp j) b) by ac_rfl,et,zero_add]
  ·simp only[mX,ev,ih,←hl,vy,Nat.mul_comm j,add_mul];ac_rfl
theorem jO:∀(a b:List F) (p:F×F),p∈diffs a b→∃i,i<a.length∧p.2=gp i
 |c::a,d::b,p,hp=>by
  unfold diffs at hp;split at hp
  ·obtain⟨i,hi,e⟩:=jO a b p hp;exact⟨i,by simp;omega,e⟩
  ·rcases yG.1 hp with rfl|hp
   ·exact⟨a.length,by simp,rfl⟩
   ·obtain⟨i,hi,e⟩:=jO a b p hp;exact⟨i,by simp;omega,e⟩
 |[],_,p,hp=>by simp[diffs]at hp
 |_::_,[],p,hp=>by simp[diffs]at hp
theorem jG:∀(a b:List F),a.length≤31→((diffs a b).map Prod.snd).Nodup
 |c::a,d::b,h=>by
  have hl:a.length+1≤31:=by simpa using h
  unfold diffs;split
  ·exact jG a b (by omega)
  ·rw[xI,List.nodup_cons];refine⟨fun hm=>?_,jG a b (by omega)⟩;obtain⟨p,hp,e⟩:=zJ.1 hm;obtain⟨i,hi,e2⟩:=jO a b p hp;have:=EJ (by omega) (by omega) (e2.symm.trans e);omega
 |[],_,_=>by simp[diffs]
 |_::_,[],_=>by simp[diffs]
theorem pM:∀(a b:List F) (p:F×F),p∈diffs a b→p.1≠0
 |c::a,d::b,p,hp=>by
  unfold diffs at hp;split at hp
  ·exact pM a b p hp
  ·rename_i hne
   rcases yG.1 hp with rfl|hp
   ·exact fun e=>hne (jR e)
   ·exact pM a b p hp
 |[],_,p,hp=>by simp[diffs]at hp
 |_::_,[],p,hp=>by simp[diffs]at hp
theorem rh:∀(a b:List F),a.length=b.length→diffs a b=[]→a=b
 |[],[],_,_=>rfl
 |c::a,d::b,h,hd=>by
  unfold diffs at hd;split at hd
  ·rename_i e
   rw[e,rh a b (by simpa using h) hd]
  ·cases hd
def Code(w:List F):Prop:=∀j,1≤j→j≤6→ev (gp j) w=0
theorem code_apart{a b:List F}(ha:Code a)(hb:Code b)(hl:a.length=b.length)(hn:a.length≤31)(hd:(diffs a b).length≤6):a=b:=by
 refine rh a b hl ?_;have h:=sY _ (diffs a b) rfl (jG a b hn) (fun p hp=>by obtain⟨i,_,e⟩:=jO a b p hp;rw[e];exact GC i)
  (fun j h1 h2=>by rw[rl j a b hl,ha j h1 (by omega),hb j h1 (by omega),add_zero])
 match hdd:diffs a b with
 |[]=>rfl
 |p::t =>
  have hp:p∈diffs a b:=by rw[hdd];exact wU
  exact absurd (h p hp) (pM a b p hp)
end F
end Go.Proofs.YtjgfgdcaocbfhaaGreat

