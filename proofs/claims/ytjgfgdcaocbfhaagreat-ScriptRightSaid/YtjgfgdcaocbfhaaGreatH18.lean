import Derived.Test.YtjgfgdcaocbfhaaGreatH16
set_option linter.all false
set_option maxRecDepth 100000
set_option maxHeartbeats 0
namespace Go.Proofs.YtjgfgdcaocbfhaaGreat
open Go.Value renaming int→B,slice→D
open Go.IntKind renaming i64→C
open Go.RowKit
variable {cls out:List Int} {i k p q:Nat} {x:Int} {w:World}
def aR(a b:Int):Int:=if a<b then -1 else if a>b then 1 else 0
def qo(a b:eD):Int:=if aR a.t b.t≠0 then aR a.t b.t else if aR a.s b.s≠0 then aR a.s b.s else aR a.q b.q
theorem aT(a b:Int):(a<b∧aR a b=-1)∨(a=b∧aR a b=0)∨(b<a∧aR a b=1):=by
 unfold aR;split
 ·exact .inl ⟨‹_›,rfl⟩
 ·split
  ·exact .inr (.inr ⟨‹_›,rfl⟩)
  ·exact .inr (.inl ⟨by omega,rfl⟩)
theorem zn(a b:eD):(iE a b=true∧qo a b=-1)∨(a=b∧qo a b=0)∨(iE b a=true∧qo a b=1):=by
 unfold qo iE;simp only[decide_eq_true_eq];rw[eD.eq_iff];rcases aT a.t b.t with ⟨h1,h2⟩|⟨h1,h2⟩|⟨h1,h2⟩
 ·rw[h2];exact .inl ⟨by omega,rfl⟩
 ·rw[h2];rcases aT a.s b.s with ⟨k1,k2⟩|⟨k1,k2⟩|⟨k1,k2⟩
  ·rw[k2];exact .inl ⟨by omega,rfl⟩
  ·rw[k2];rcases aT a.q b.q with ⟨m1,m2⟩|⟨m1,m2⟩|⟨m1,m2⟩
   ·rw[m2];exact .inl ⟨by omega,rfl⟩
   ·rw[m2];exact .inr (.inl ⟨by omega,rfl⟩)
   ·rw[m2];exact .inr (.inr ⟨by omega,rfl⟩)
  ·rw[k2];exact .inr (.inr ⟨by omega,rfl⟩)
 ·rw[h2];exact .inr (.inr ⟨by omega,rfl⟩)
theorem EU(a b:eD):decide (0<qo a b)=iE b a:=by
 rcases zn a b with ⟨h1,h2⟩|⟨h1,h2⟩|⟨h1,h2⟩
 ·rw[h2,jX.asym h1];rfl
 ·rw[h2,h1,jX.irr];rfl
 ·rw[h2,h1];rfl
def kh(a b:eD)(x y:Int):Bool:=decide (a.s=b.s∧a.q=b.q∧(a.t≠b.t∨x≠y))
def Ff(l:List eD)(cls:List Int)(i k:Nat):Bool:=match l[i]?,l[k]?,cls[i]?,cls[k]? with
 |some a,some b,some x,some y=>im b&&(kh a b x y||(decide (k<i)&&decide (b=a)))
 |_,_,_,_=>false
def iH(l:List eD)(cls:List Int)(i:Nat):Bool:=match l[i]? with
 |some a=>im a&&(List.range l.length).all fun k=>!Ff l cls i k
 |none=>false
theorem ox{l:List eD}{a b:eD}{y:Int}(h1:l[i]?=some a)(h2:l[k]?=some b)(h3:cls[i]?=some x)(h4:cls[k]?=some y):Ff l cls i k=(im b&&(kh a b x y||(decide (k<i)&&decide (b=a)))):=by unfold Ff;rw[h1,h2,h3,h4]
theorem js{l:List eD}{a:eD}(h:l[i]?=some a):iH l cls i=true↔im a=true∧∀k,k<l.length→Ff l cls i k=false:=by unfold iH;rw[h];simp only[yY,yS,zB,wC]
theorem Gf{l:List eD}{a:eD}(h:l[i]?=some a)(hv:im a=false):iH l cls i=false:=by unfold iH;rw[h];simp[hv]
theorem Bc{l:List eD}{a:eD}(h:l[i]?=some a)(hk:k<l.length)(hv:Ff l cls i k=true):iH l cls i=false:=by
 cases e:iH l cls i with
 |false=>rfl
 |true=>have:=((js h).1 e).2 k hk;rw[hv]at this;cases this
def qZ(l:List eD)(a b:Int):Bool:=match l[a.toNat]?,l[b.toNat]? with
 |some x,some y=>iE x y
 |_,_=>false
theorem Fu(l:List eD):ue (qZ l):=by
 refine⟨fun a=>?_,fun a b c h1 h2=>?_⟩
 ·unfold qZ;cases l[a.toNat]? with
  |none=>rfl
  |some x=>exact jX.irr x
 ·unfold qZ at *
  cases ha:l[a.toNat]? with
  |none=>rw[ha]at h1;cases h1
  |some x =>
   cases hb:l[b.toNat]? with
   |none=>rw[ha,hb]at h1;cases h1
   |some y =>
    cases hc:l[c.toNat]? with
    |none=>rw[hb,hc]at h2;cases h2
    |some z =>
     rw[ha,hb]at h1;rw[hb,hc]at h2;exact jX.tr x y z h1 h2
theorem sE{l:List eD}{a b:eD}(h1:l[i]?=some a)(h2:l[k]?=some b):qZ l (i:Int) (k:Int)=iE a b:=by unfold qZ;rw[yR,yR,h1,h2]
theorem G5{l:List eD}(hl:cls.length=l.length){a b:eD}(h1:l[i]?=some a)(h2:l[k]?=some b)(hi:iH l cls i=true)(hk:iH l cls k=true)(hne:i≠k):a.s≠b.s∨a.q≠b.q:=by
 have key:∀{i k:Nat} {a b:eD},l[i]?=some a→l[k]?=some b→iH l cls i=true→iH l cls k=true→k<i→a.s≠b.s∨a.q≠b.q:=by intro i k a b h1 h2 hi hk hlt;have hki:=(zY.1 h2).1;have hii:=(zY.1 h1).1;have hx:cls[i]?=some (cls[i]'(by omega)):=zW _;have hy:cls[k]?=some (cls[k]'(by omega)):=zW _;have h3:=((js h1).1 hi).2 k hki;have h4:=((js h2).1 hk).1;rw[ox h1 h2 hx hy,h4,yU,Bool.or_eq_false_iff]at h3;have h5:=h3.1;have h6:=h3.2;rw[decide_eq_true hlt,yU,decide_eq_false_iff_not,eD.eq_iff]at h6;unfold kh at h5;rw[decide_eq_false_iff_not]at h5;omega
 rcases zV k i with h|h
 ·exact key h1 h2 hi hk h
 ·have:=key h2 h1 hk hi (by omega);omega
def kl(l:List eD)(cls:List Int)(k:Nat):List Int:=((List.range k).filter (iH l cls)).map fun i:Nat=>(i:Int)
theorem BN{l:List eD}(h:iH l cls k=true):kl l cls (k+1)=kl l cls k++[(k:Int)]:=by unfold kl;rw[yC,yJ,yN,wX h];rfl
theorem EN{l:List eD}(h:iH l cls k=false):kl l cls (k+1)=kl l cls k:=by unfold kl;rw[yC,yJ,yN,wW (by simp[h])];simp
theorem CZ{l:List eD}:x∈kl l cls k↔∃i:Nat,x=i∧i<k∧iH l cls i=true:=by
 unfold kl;rw[zJ];constructor
 ·rintro⟨i,hi,rfl⟩;obtain⟨h1,h2⟩:=xY.1 hi;exact⟨i,rfl,zB.1 h1,h2⟩
 ·rintro⟨i,rfl,h1,h2⟩;exact⟨i,xY.2 ⟨zB.2 h1,h2⟩,rfl⟩
structure fy (l:List eD) (cls:List Int) (k:Nat) (out:List Int):Prop where
 asc:fB (qZ l) out
 perm:out.Perm (kl l cls k)
theorem fy.nil(l:List eD)(cls:List Int):fy l cls 0 []:=⟨List.Pairwise.nil,List.Perm.refl _⟩
theorem fy.skip{l:List eD}(h:fy l cls k out)(hc:iH l cls k=false):fy l cls (k+1) out:=⟨h.asc,by rw[EN hc];exact h.perm⟩
theorem fy.mem{l:List eD}(h:fy l cls k out):x∈out↔∃i:Nat,x=i∧i<k∧iH l cls i=true:=by rw[h.perm.mem_iff,CZ]
theorem fy.put{l:List eD}{r:Nat}(h:fy l cls k out)(hl:cls.length=l.length)(hk:k<l.length)(hc:iH l cls k=true)(hr:r≤out.length)(h1:∀x,out[r]?=some x→qZ l (k:Int) x=true)(h2:∀x,r≠0→out[r-1]?=some x→qZ l (k:Int) x=false):fy l cls (k+1) (out.take r++[(k:Int)]++out.drop r):=by
 have O:=Fu l;have tot:∀x∈out,qZ l x (k:Int)=true∨qZ l (k:Int) x=true:=by intro x hx;obtain⟨i,rfl,hik,hci⟩:=h.mem.1 hx;have e1:l[i]?=some (l[i]'(by omega)):=zW _;have e2:l[k]?=some (l[k]'hk):=zW _;rw[sE e1 e2,sE e2 e1];exact AY (G5 hl e1 e2 hci hc (by omega))
 have before:∀x∈out.take r,qZ l x (k:Int)=true:=by
  intro x hx;have hr0:r≠0:=by rintro rfl;simp at hx
  have e:out[r-1]?=some (out[r-1]'(by omega)):=zW _;have hlast:=h2 _ hr0 e;have hlast':qZ l (out[r-1]'(by omega)) (k:Int)=true:=by
   rcases tot _ (zU e) with h|h
   ·exact h
   ·rw[hlast]at h;cases h
  obtain⟨j,hj⟩:=yZ hx;rw[yB]at hj;split at hj
  ·rename_i hjr
   by_cases ej:j=r-1
   ·subst ej;rw[e]at hj;injection hj with hj;subst hj;exact hlast'
   ·exact O.tr _ _ _ (h.asc.at_ hj e (by omega)) hlast'
  ·cases hj
 have after:∀x∈out.drop r,qZ l (k:Int) x=true:=by
  intro x hx;obtain⟨j,hj⟩:=yZ hx;rw[xB]at hj;have hlt:=(zY.1 hj).1;have e:out[r]?=some (out[r]'(by omega)):=zW _;have h0:=h1 _ e;by_cases ej:j=0
  ·subst ej;rw[yP,e]at hj;injection hj with hj;subst hj;exact h0
  ·exact O.tr _ _ _ h0 (h.asc.at_ e hj (by omega))
 refine⟨?_,?_⟩
 ·unfold fB;rw[xV,List.pairwise_append];refine⟨h.asc.take r,?_,?_⟩
  ·rw[List.singleton_append,xZ];exact⟨after,h.asc.drop r⟩
  ·intro a ha b hb;rcases zC.1 hb with hb|hb
   ·obtain rfl:b=(k:Int):=by simpa using hb
    exact before a ha
   ·exact O.tr _ _ _ (before a ha) (after b hb)
 ·rw[BN hc];have h3:(out.take r++[(k:Int)]++out.drop r).Perm (out.take r++out.drop r++[(k:Int)]):=by
   rw[xV,xV];exact List.Perm.append_left _ List.perm_append_comm
  rw[List.take_append_drop]at h3;exact h3.trans (h.perm.append_right _)
open _root_.Go.Proofs.Tryz
theorem uB(t s q:Int)(w:World) :
  Calls prog 145 #[.agg #[B C t,B C s,B C q]] w fun e w'=>e=.returned (.bool (im ⟨t,s,q⟩))∧ab w w':=by
 go_enter func145,ntmps145
 go_wp2
 all_goals (go_ret;exact⟨aa (by first|(simp[im];omega)|(rw[yE];simp[im];omega)),(zE _).alloc _⟩)
theorem kq(a b:Int)(w:World) :
  Calls prog 147 #[B C a,B C b] w fun e w'=>e=.returned (B C (aR a b))∧w=w':=by
 go_enter func147,ntmps147
 go_wp2
 all_goals (go_ret;exact⟨ah (by unfold aR;first|rw[if_pos (by omega)]|rw[if_neg (by omega),if_pos (by omega)]|rw[if_neg (by omega),if_neg (by omega)]),rfl⟩)
theorem sA(t s q t' s' q':Int)(w:World) :
  Calls prog 120 #[.agg #[B C t,B C s,B C q],.agg #[B C t',B C s',B C q']] w fun e w'=>e=.returned (B C (qo ⟨t,s,q⟩ ⟨t',s',q'⟩))∧ab w w':=by
 have H1:Bx (qo ⟨t,s,q⟩ ⟨t',s',q'⟩=if aR t t'≠0 then aR t t' else if aR s s'≠0 then aR s s' else aR q q'):=⟨rfl⟩
 obtain⟨c1,hc1⟩:=nm (aR t t');obtain⟨c2,hc2⟩:=nm (aR s s');obtain⟨c3,hc3⟩:=nm (aR q q');rw[←hc1,←hc2,←hc3]at H1;generalize qo ⟨t,s,q⟩ ⟨t',s',q'⟩=r at *
 replace hc1:=zZ hc1;replace hc2:=zZ hc2;replace hc3:=zZ hc3;go_enter func120,ntmps120
 go_wp2_with fail;refine (kq t t' _).mono ?_;rintro e w1 ⟨rfl,rfl⟩;rw[←hc1.out];by_cases h1:c1=0
 ·subst h1;go_wp2_with fail;refine (kq s s' _).mono ?_;rintro e w1 ⟨rfl,rfl⟩;rw[←hc2.out];by_cases h2:c2=0
  ·subst h2;go_wp2_with fail;refine (kq q q' _).mono ?_;rintro e w1 ⟨rfl,rfl⟩;rw[←hc3.out];go_wp2_with fail;go_ret
   exact⟨ah (by rw[H1.out];simp),((zE _).alloc _).alloc _⟩
  ·have h2b:(c2==0)=false:=beq_eq_false_iff_ne.2 h2;replace h2:=zZ h2;go_wp2_with fail;go_ret
   exact⟨ah (by rw[H1.out];simp[h2.out]),((zE _).alloc _).alloc _⟩
 ·have h1b:(c1==0)=false:=beq_eq_false_iff_ne.2 h1;replace h1:=zZ h1;go_wp2_with fail;go_ret
  exact⟨ah (by rw[H1.out];simp[h1.out]),((zE _).alloc _).alloc _⟩
theorem Cm(t s q t' s' q' x y:Int)(w:World) :
  Calls prog 146 #[.agg #[B C t,B C s,B C q],.agg #[B C t',B C s',B C q'],B C x,B C y] w fun e w'=>e=.returned (.bool (kh ⟨t,s,q⟩ ⟨t',s',q'⟩ x y))∧ab w w':=by
 go_enter func146,ntmps146
 go_wp2
 all_goals (go_ret;exact⟨aa (by first|(simp[kh];omega)|(rw[yE];simp[kh];omega)|simp_all [kh]),((zE _).alloc _).alloc _⟩)
theorem D3(a b c a' b' c':Int)(w:World):(Op.equalIn 10000 109 (.agg #[B C a,B C b,B C c]) (.agg #[B C a',B C b',B C c'])).run prog w=.ok (decide (a=a'∧b=b'∧c=c')) w:=by
 have u3:=underlying3;have a3:=isAgg3;have z3:=sizeOf3;have hS:prog.underlying 109=some (.struct (prog.fieldsOf 109)):=by kernel_rfl
 have hp:prog.stoodInHeld 109=false:=by kernel_rfl
 rw[show (10000:Nat)=9999+1 from rfl,run_equalIn_agg w 9999 109 _ _ hS hp];simp only[Program.fieldsOf,underlying109];go_simp;by_cases h1:a=a'<;>by_cases h2:b=b'<;>by_cases h3:c=c'<;>simp[h1,h2,h3]
theorem vj:prog.eqGuardType prog.depth 109=false:=by kernel_rfl
theorem rJ(a b a' b':Int)(w:World):(Op.equalIn 10000 71 (.agg #[B C a,B C b]) (.agg #[B C a',B C b'])).run prog w=.ok (decide (a=a'∧b=b')) w:=by
 have u3:=underlying3;have a3:=isAgg3;have z3:=sizeOf3;have hS:prog.underlying 71=some (.struct (prog.fieldsOf 71)):=by kernel_rfl
 have hp:prog.stoodInHeld 71=false:=by kernel_rfl
 rw[show (10000:Nat)=9999+1 from rfl,run_equalIn_agg w 9999 71 _ _ hS hp];simp only[Program.fieldsOf,underlying71];go_simp;by_cases h1:a=a'<;>by_cases h2:b=b'<;>simp[h1,h2]
theorem li:prog.eqGuardType prog.depth 71=false:=by kernel_rfl
theorem lY(a b c d a' b' c' d':Int)(w:World):(Op.equalIn 10000 73 (.agg #[B C a,B C b,B C c,B C d]) (.agg #[B C a',B C b',B C c',B C d'])).run prog w=.ok (decide (a=a'∧b=b'∧c=c'∧d=d')) w:=by
 have u3:=underlying3;have a3:=isAgg3;have z3:=sizeOf3;have hS:prog.underlying 73=some (.struct (prog.fieldsOf 73)):=by kernel_rfl
 have hp:prog.stoodInHeld 73=false:=by kernel_rfl
 rw[show (10000:Nat)=9999+1 from rfl,run_equalIn_agg w 9999 73 _ _ hS hp];simp only[Program.fieldsOf,underlying73];go_simp;by_cases h1:a=a'<;>by_cases h2:b=b'<;>by_cases h3:c=c'<;>by_cases h4:d=d'<;>simp[h1,h2,h3,h4]
theorem fZ:prog.eqGuardType prog.depth 73=false:=by kernel_rfl
theorem FR{b off:Nat}{cs:List Value}{x:eD}(hc:∀j u,cs[j]?=some u→w.cell? ⟨b,off+j,none⟩=some u)(h:xu w cs x) :
  w.cell? ⟨b,off,none⟩=some (B C x.t)∧w.cell? ⟨b,off+1,none⟩=some (B C x.s)∧w.cell? ⟨b,off+2,none⟩=some (B C x.q):=by
 obtain⟨rfl,_⟩:=h;exact⟨hc 0 _ rfl,hc 1 _ rfl,hc 2 _ rfl⟩
theorem pT.cells{b off n c:Nat}{l:List eD}(h:pT p w (D (some ⟨b,off,none⟩) n c) l)(hk:k<n) :
  ∃t s q:Int,Hid (l[k]?=some ⟨t,s,q⟩)∧w.cell? ⟨b,off+k*3,none⟩=some (B C t)∧w.cell? ⟨b,off+k*3+1,none⟩=some (B C s)∧w.cell? ⟨b,off+k*3+2,none⟩=some (B C q)∧eD.wf ⟨t,s,q⟩:=by
 obtain⟨cs,⟨t,s,q⟩,-,hc,hR,hx⟩:=h.cell_ hk;obtain⟨h0,h1,h2⟩:=FR hc hR;exact⟨t,s,q,hx,h0,h1,h2,hR.2⟩
theorem uL(v vc:Value)(l:List eD)(cls:List Int)(i:Nat)(w:World)(hv:pT p w v l)(hc:ao q w vc cls)(hl:cls.length=l.length)(hi:i<l.length) :
  Calls prog 119 #[v,vc,B C (i:Int)] w fun e w'=>e=.returned (.bool (iH l cls i))∧ab w w':=by
 obtain⟨A,n,c,rfl,hnc,hcc,hnn,HL⟩:=hv.open_;obtain⟨A2,n2,c2,rfl,hnc2,hcc2,hnn2,HL2⟩:=hc.open_;have hin:i<n:=by have:=HL.out;omega
 have hi2:i<n2:=by have:=HL2.out;omega
 have hn12:n≤n2:=by have:=HL.out;have:=HL2.out;omega
 obtain⟨b,off,_,_,rfl,-⟩:=hv.at_ hin;obtain⟨b2,off2,x,rfl,y0,HX,-⟩:=hc.at_ hi2;obtain⟨t,s,q',HT,a0,a1,a2,-⟩:=pT.cells hv hin;have HV:Bx (pT p w (D (some ⟨b,off,none⟩) n c) l∧ao q w (D (some ⟨b2,off2,none⟩) n2 c2) cls∧cls.length=l.length):=⟨⟨hv,hc,hl⟩⟩
 clear hv hc hl;go_enter func119,ntmps119
 go_wp2_with fail;refine (uB t s q' _).mono ?_;rintro e w1 ⟨rfl,hx1⟩;cases hb:im ⟨t,s,q'⟩ with
 |false =>
  have HB:=zZ (Gf (cls:=cls) HT.out hb);clear hb;go_wp2_with fail;go_ret
  exact⟨aa HB.out.symm,hx1⟩
 |true =>
  replace hb:=zZ hb;have HE1:Bx (ab w w1):=⟨hx1⟩
  clear hx1;go_wp2_with fail;go_loopw [7] (fun s7 wr=>∃k:Nat,s7=B C k∧k≤n∧Bx (ab w wr∧∀j,j<k→Ff l cls i j=false)) (fun k _=>n-(intOf k).toNat)
  case atStart=>exact⟨0,rfl,by omega,⟨⟨HE1.out,fun j hj=>by omega⟩⟩⟩
  case round =>
   clear HE1;obtain⟨k,rfl,hk,HR⟩:=hrel;by_cases hkn:k<n
   ·have hk2:k<n2:=by omega
    obtain⟨t',s',q'',HT',e0,e1,e2,-⟩:=pT.cells (HV.out.1.ext (xu.stab p) HR.out.1) hkn;obtain⟨y,z0,HY,-⟩:=(HV.out.2.1.ext HR.out.1).cell_ hk2;have a0':=HR.out.1.cell a0;have a1':=HR.out.1.cell a1;have a2':=HR.out.1.cell a2;have y0':=HR.out.1.cell y0;have HAG:=zZ (ox HT.out HT'.out HX.out HY.out);clear a0 a1 a2 y0;have kS:wr.drew.cell? ⟨b,off+i*3,none⟩=some (B C t)∧wr.drew.cell? ⟨b,off+i*3+1,none⟩=some (B C s)∧wr.drew.cell? ⟨b,off+i*3+2,none⟩=some (B C q')∧wr.drew.cell? ⟨b,off+k*3,none⟩=some (B C t')∧wr.drew.cell? ⟨b,off+k*3+1,none⟩=some (B C s')∧wr.drew.cell? ⟨b,off+k*3+2,none⟩=some (B C q'')∧wr.drew.cell? ⟨b2,off2+i,none⟩=some (B C x)∧wr.drew.cell? ⟨b2,off2+k,none⟩=some (B C y):=⟨a0',a1',a2',e0,e1,e2,y0',z0⟩
    clear a0' a1' a2' e0 e1 e2 y0' z0;have hd:ab w wr.drew:=HR.out.1.drew;have HA:Bx (∀j,j<k→Ff l cls i j=false):=⟨HR.out.2⟩
    go_upto_region 6 with (fail)
    refine zR 99 (fun w'=>w'.cell? ⟨b,off+i*3,none⟩=some (B C t)∧w'.cell? ⟨b,off+i*3+1,none⟩=some (B C s)∧w'.cell? ⟨b,off+i*3+2,none⟩=some (B C q')∧w'.cell? ⟨b,off+k*3,none⟩=some (B C t')∧w'.cell? ⟨b,off+k*3+1,none⟩=some (B C s')∧w'.cell? ⟨b,off+k*3+2,none⟩=some (B C q'')∧w'.cell? ⟨b2,off2+i,none⟩=some (B C x)∧w'.cell? ⟨b2,off2+k,none⟩=some (B C y)) ?_;refine zS 4 [(0,20),(1,21),(2,22),(3,23)] kS ?_;iterate 4 (apply zT;exact⟨rfl,rfl⟩;(·intro _ _;go_simp;try with_reducible rfl);simp only[kA];exact rfl)
    refine zN (zO 4 (fun K hK=>?_));go_simp;refine (uB t' s' q'' _).mono ?_;rintro e w2 ⟨rfl,hx2⟩;have HE2:Bx (ab w w2):=⟨hd.trans hx2⟩
    clear hd HR;have kS2:w2.cell? ⟨b,off+i*3,none⟩=some (B C t)∧w2.cell? ⟨b,off+i*3+1,none⟩=some (B C s)∧w2.cell? ⟨b,off+i*3+2,none⟩=some (B C q')∧w2.cell? ⟨b,off+k*3,none⟩=some (B C t')∧w2.cell? ⟨b,off+k*3+1,none⟩=some (B C s')∧w2.cell? ⟨b,off+k*3+2,none⟩=some (B C q'')∧w2.cell? ⟨b2,off2+i,none⟩=some (B C x)∧w2.cell? ⟨b2,off2+k,none⟩=some (B C y):=⟨hx2.cell kS.1,hx2.cell kS.2.1,hx2.cell kS.2.2.1,hx2.cell kS.2.2.2.1,hx2.cell kS.2.2.2.2.1,hx2.cell kS.2.2.2.2.2.1,hx2.cell kS.2.2.2.2.2.2.1,hx2.cell kS.2.2.2.2.2.2.2⟩
    clear hx2 kS;cases hb1:im ⟨t',s',q''⟩ with
    |false =>
     have HF:=zZ (show Ff l cls i k=false by rw[HAG.out,hb1];rfl);clear hb1;refine hK.out _ _ (fun _=>(kS2)) ?_;clear hK K;try simp only[kA]
     refine zS 1 [(5,25)] kS2 ?_;(apply zT;exact⟨rfl,rfl⟩;(·intro _ _;go_simp;try with_reducible rfl);simp only[kA];exact rfl);refine zN (zS 33 [(6,26),(7,27),(8,28),(9,29),(10,30),(11,31),(12,32),(13,33),(14,34),(15,35),(16,36),(17,37),(18,38),(19,39),(20,40),(21,41),(22,42),(23,43),(24,44),(25,45),(26,46),(27,47),(28,48),(29,49),(30,50),(31,51),(32,52),(33,53),(34,54),(35,55),(36,56),(37,57),(38,58)] kS2 ?_);iterate 33 (apply zK;exact⟨rfl,rfl⟩;simp only[kA];exact rfl)
     refine zN (zS 1 [(39,59)] kS2 ?_);(apply zT;exact⟨rfl,rfl⟩;(·intro _ _;go_simp;try with_reducible rfl);simp only[kA];exact rfl);refine zN (zD ?_);go_wp2_with fail;go_roundw
     case rel=>exact⟨k+1,by go_num,by omega,⟨⟨HE2.out,fun j hj=>by rcases zV j k with h|h;exact HA.out j h;obtain rfl:j=k:=(by omega);exact HF.out⟩⟩⟩
     case measure=>simp[intOf];omega
    |true =>
     refine hK.out _ _ (fun _=>(kS2)) ?_;clear hK K;try simp only[kA]
     refine zS 17 [(5,25),(6,26),(7,27),(8,28),(9,29),(10,30),(11,31),(12,32),(13,33),(14,34),(15,35),(16,36),(17,37),(18,38),(19,39),(20,40),(21,41)] kS2 ?_;iterate 17 (apply zT;exact⟨rfl,rfl⟩;(·intro _ _;go_simp;try with_reducible rfl);simp only[kA];exact rfl)
     refine zN (zO 22 (fun K hK=>?_));go_simp;refine (Cm t s q' t' s' q'' x y _).mono ?_;rintro e w3 ⟨rfl,hx3⟩;have HE3:Bx (ab w w3):=⟨HE2.out.trans hx3⟩
     have kS3:w3.cell? ⟨b,off+i*3,none⟩=some (B C t)∧w3.cell? ⟨b,off+i*3+1,none⟩=some (B C s)∧w3.cell? ⟨b,off+i*3+2,none⟩=some (B C q')∧w3.cell? ⟨b,off+k*3,none⟩=some (B C t')∧w3.cell? ⟨b,off+k*3+1,none⟩=some (B C s')∧w3.cell? ⟨b,off+k*3+2,none⟩=some (B C q'')∧w3.cell? ⟨b2,off2+i,none⟩=some (B C x)∧w3.cell? ⟨b2,off2+k,none⟩=some (B C y):=⟨hx3.cell kS2.1,hx3.cell kS2.2.1,hx3.cell kS2.2.2.1,hx3.cell kS2.2.2.2.1,hx3.cell kS2.2.2.2.2.1,hx3.cell kS2.2.2.2.2.2.1,hx3.cell kS2.2.2.2.2.2.2.1,hx3.cell kS2.2.2.2.2.2.2.2⟩
     clear hx3 kS2;cases hd1:kh ⟨t,s,q'⟩ ⟨t',s',q''⟩ x y with
     |true =>
      have HF:=zZ (Bc (cls:=cls) HT.out (k:=k) (by have:=HL.out;omega) (by rw[HAG.out,hb1,hd1];rfl));clear hb1 hd1;refine hK.out _ _ (fun _=>(kS3)) ?_;clear hK K;try simp only[kA]
      refine zS 1 [(23,43)] kS3 ?_;(apply zT;exact⟨rfl,rfl⟩;(·intro _ _;go_simp;try with_reducible rfl);simp only[kA];exact rfl);refine zN (zS 14 [(24,44),(25,45),(26,46),(27,47),(28,48),(29,49),(30,50),(31,51),(32,52),(33,53),(34,54),(35,55),(36,56),(37,57)] kS3 ?_);iterate 14 (apply zK;exact⟨rfl,rfl⟩;simp only[kA];exact rfl)
      refine zN (zS 2 [(38,58),(39,59)] kS3 ?_);iterate 2 (apply zT;exact⟨rfl,rfl⟩;(·intro _ _;go_simp;try with_reducible rfl);simp only[kA];exact rfl)
      refine zN (zD ?_);go_wp2_with fail;go_ret
      exact⟨aa HF.out.symm,HE3.out⟩
     |false =>
      by_cases hki:k<i
      ·have eL:∀W,(Op.equalIn 10000 109 (.agg #[B C t',B C s',B C q'']) (.agg #[B C t,B C s,B C q'])).run prog W=.ok (decide (t'=t∧s'=s∧q''=q')) W:=fun W=>D3 _ _ _ _ _ _ W;have gL:=vj;have HQ:Bx (decide ((⟨t',s',q''⟩:eD)=⟨t,s,q'⟩)=decide (t'=t∧s'=s∧q''=q')):=⟨by rw[yE];simp only[decide_eq_true_eq,eD.eq_iff]⟩
       have HD1:=zZ hd1;have HB1:=zZ hb1;clear hb1 hd1;obtain⟨bq,hbq⟩:=nm (decide (t'=t∧s'=s∧q''=q'));rw[←hbq]at HQ;simp only[←hbq]at eL;clear hbq;refine hK.out _ _ (fun _=>(kS3)) ?_;clear hK K;try simp only[kA]
       refine zS 17 [(23,43),(24,44),(25,45),(26,46),(27,47),(28,48),(29,49),(30,50),(31,51),(32,52),(33,53),(34,54),(35,55),(36,56),(37,57),(38,58),(39,59)] kS3 ?_;iterate 17 (apply zT;exact⟨rfl,rfl⟩;(·intro _ _;go_simp;try with_reducible rfl);simp only[kA];exact rfl)
       refine zN (zD ?_);clear eL gL;cases bq with
       |true =>
        have HF:=zZ (Bc (cls:=cls) HT.out (k:=k) (by have:=HL.out;omega) (by rw[HAG.out,HB1.out,HD1.out,decide_eq_true hki,HQ.out];rfl));go_wp2_with fail;go_ret
        exact⟨aa HF.out.symm,HE3.out⟩
       |false =>
        have HF:=zZ (show Ff l cls i k=false by rw[HAG.out,HB1.out,HD1.out,decide_eq_true hki,HQ.out];rfl);go_wp2_with fail;go_roundw
        case rel=>exact⟨k+1,by go_num,by omega,⟨⟨HE3.out,fun j hj=>by rcases zV j k with h|h;exact HA.out j h;obtain rfl:j=k:=(by omega);exact HF.out⟩⟩⟩
        case measure=>simp[intOf];omega
      ·have HF:=zZ (show Ff l cls i k=false by rw[HAG.out,hb1,hd1,decide_eq_false hki];rfl);clear hb1 hd1;refine hK.out _ _ (fun _=>(kS3)) ?_;clear hK K;try simp only[kA]
       refine zS 5 [(23,43),(24,44),(25,45),(26,46),(27,47)] kS3 ?_;iterate 5 (apply zT;exact⟨rfl,rfl⟩;(·intro _ _;go_simp;try with_reducible rfl);simp only[kA];exact rfl)
       refine zN (zS 9 [(28,48),(29,49),(30,50),(31,51),(32,52),(33,53),(34,54),(35,55),(36,56)] kS3 ?_);iterate 9 (apply zK;exact⟨rfl,rfl⟩;simp only[kA];exact rfl)
       refine zN (zS 3 [(37,57),(38,58),(39,59)] kS3 ?_);iterate 3 (apply zT;exact⟨rfl,rfl⟩;(·intro _ _;go_simp;try with_reducible rfl);simp only[kA];exact rfl)
       refine zN (zD ?_);go_wp2_with fail;go_roundw
       case rel=>exact⟨k+1,by go_num,by omega,⟨⟨HE3.out,fun j hj=>by rcases zV j k with h|h;exact HA.out j h;obtain rfl:j=k:=(by omega);exact HF.out⟩⟩⟩
       case measure=>simp[intOf];omega
   ·obtain rfl:k=n:=by omega
    have HF:=zZ ((js (cls:=cls) HT.out).2 ⟨hb.out,fun j hj=>HR.out.2 j (by have:=HL.out;omega)⟩);go_wp2_with fail;go_ret
    exact⟨aa HF.out.symm,HR.out.1⟩
theorem pY{base e size n:Nat}{v:Value}{xs:List Value}(h:w.ownsRow base e size v n xs):∃A c,v=D A n c:=by
 rcases h.2 with ⟨e,h0⟩|⟨g,cap,cur,e,_⟩
 ·exact⟨none,0,by rw[e,h0]⟩
 ·exact⟨_,_,e⟩
theorem sM(v vc:Value)(l:List eD)(cls:List Int)(w:World)(hv:pT p w v l)(hc:ao q w vc cls)(hl:cls.length=l.length)(hn:l.length≤300) :
  Calls prog 96 #[v,vc] w fun e w'=>∃(vo:Value) (out:List Int),e=.returned (.tuple #[vo,B C 0])∧w'.ownsRow w.heap.size 3 1 vo out.length (out.map (Value.int .i64))∧fy l cls l.length out∧ab w w':=by
 obtain⟨A,n,c,rfl,hnc,hcc,hnn,HL⟩:=hv.open_;obtain⟨A2,n2,c2,rfl,hnc2,hcc2,hnn2,HL2⟩:=hc.open_;obtain⟨i0,hi0,hz0,hz1,hz2⟩:=info_parts Tryz.infoI;have hn3:n≤300:=by have:=HL.out;omega
 have hn12:n=n2:=by have:=HL.out;have:=HL2.out;omega
 subst hn12;have HV:Bx (pT p w (D A n c) l∧ao q w (D A2 n c2) cls∧cls.length=l.length):=⟨⟨hv,hc,hl⟩⟩
 clear hv hc hl hn;go_enter func96,ntmps96
 go_wp2_with fail;go_loopw [6,7] (fun s6 s7 wr=>∃(i no:Nat) (out:List Int),s7=B C i∧i≤n∧out.length≤no∧no≤out.length∧no≤i∧Bx (wr.ownsRow w.heap.size 3 1 s6 out.length (out.map (Value.int .i64))∧fy l cls i out∧ab w wr)) (fun _ i _=>n-(intOf i).toNat)
 case atStart=>exact⟨0,0,[],rfl,by omega,by simp,by simp,by omega,⟨⟨yW _ _ _ _,fy.nil _ _,zE _⟩⟩⟩
 case round =>
  obtain⟨i,no,out,rfl,hi,ho1,ho2,hoi,HR⟩:=hrel;by_cases hin:i<n
  ·obtain⟨b,off,_,_,rfl,-⟩:=HV.out.1.at_ hin;obtain⟨t,s,q',HT,a0,a1,a2,-⟩:=pT.cells HV.out.1 hin;go_wp2_with fail;refine (uL _ _ l cls i _ (HV.out.1.ext (xu.stab p) HR.out.2.2) (HV.out.2.1.ext HR.out.2.2) HV.out.2.2 (by have:=HL.out;omega)).mono ?_;rintro e w1 ⟨rfl,hx1⟩;cases hb:iH l cls i with
   |false =>
    replace hb:=zZ hb;go_wp2_with fail;go_roundw
    case rel=>exact⟨i+1,no,out,by go_num,by omega,by omega,by omega,by omega,⟨⟨ac HR.out.1 hx1,HR.out.2.1.skip hb.out,HR.out.2.2.trans hx1⟩⟩⟩
    case measure=>simp[intOf];omega
   |true =>
    replace hb:=zZ hb;have hbw:b<w.heap.size:=bZ a0;have hown1:=ac HR.out.1 hx1;have hI:ao b w1 u6 out:=ao.of_own hown1 hbw (fun x hx=>by obtain⟨j,rfl,hj,-⟩:=HR.out.2.1.mem.1 hx;exact⟨by omega,by omega⟩) (by omega);obtain⟨Ao,n',co,rfl,hnc',hc',hnn',HLo⟩:=hI.open_;obtain rfl:n'=no:=by have:=HLo.out;omega
    have HI:Bx (ao b w1 (D Ao n' co) out):=⟨hI⟩
    have HO:Bx (w1.ownsRow w.heap.size 3 1 (D Ao n' co) out.length (out.map (Value.int .i64))):=⟨hown1⟩
    have HS:Bx (fy l cls i out):=⟨HR.out.2.1⟩
    have HE:Bx (ab w w1):=⟨HR.out.2.2.trans hx1⟩
    clear HR hx1 hown1 hI;go_wp2_with fail;go_loopw [8] (fun s8 wr=>∃r:Nat,s8=B C r∧r≤n'∧Bx (ab w1 wr∧∀x,out[r]?=some x→qZ l (i:Int) x=true)) (fun r _=>(intOf r).toNat)
    case atStart=>exact⟨n',rfl,by omega,⟨⟨zE _,fun x hx=>by have:=(zY.1 hx).1;omega⟩⟩⟩
    case round =>
     obtain⟨r,rfl,hr,HX⟩:=hrel;have HE2:Bx (ab w wr):=⟨HE.out.trans HX.out.1⟩
     by_cases hr0:0<r
     ·obtain⟨r',hr'⟩:∃r',r'+1=r:=⟨r-1,by omega⟩
      have hrr:r'<n':=by omega
      have hrr2:r=r'+1:=hr'.symm;have HRR:=zZ hrr2;have hr1:r'+1≤r:=by omega
      have hr2:r≤r'+1:=by omega
      clear hr' hrr2;obtain⟨g,og,x,rfl,hgx,hxo,-⟩:=(HI.out.ext HX.out.1).at_ hrr;obtain⟨j,hj,hji,hjc⟩:=HS.out.mem.1 (zU hxo.out);subst hj;have hog:og=0:=by obtain⟨g9,c9,e9,_⟩:=aQ HO.out (by omega);injection e9 with e9 _ _;injection e9 with e9;injection e9
      subst hog;rw[yV]at hgx;have hjn:j<n:=by omega
      obtain⟨t',s',q'',HT',e0,e1,e2,-⟩:=pT.cells (HV.out.1.ext (xu.stab p) HE2.out) hjn;have HLT:Bx (qZ l (i:Int) (j:Int)=decide (0<qo ⟨t',s',q''⟩ ⟨t,s,q'⟩)):=⟨by rw[sE HT.out HT'.out,EU]⟩
      obtain⟨cv,hcv⟩:=nm (qo ⟨t',s',q''⟩ ⟨t,s,q'⟩);rw[←hcv]at HLT;have HCV:=zZ hcv;clear hcv;have kS:wr.drew.cell? ⟨g,r',none⟩=some (B C (j:Int))∧wr.drew.cell? ⟨b,off+j*3,none⟩=some (B C t')∧wr.drew.cell? ⟨b,off+j*3+1,none⟩=some (B C s')∧wr.drew.cell? ⟨b,off+j*3+2,none⟩=some (B C q'')∧wr.drew.cell? ⟨b,off+i*3,none⟩=some (B C t)∧wr.drew.cell? ⟨b,off+i*3+1,none⟩=some (B C s)∧wr.drew.cell? ⟨b,off+i*3+2,none⟩=some (B C q'):=⟨hgx,e0,e1,e2,HE2.out.cell a0,HE2.out.cell a1,HE2.out.cell a2⟩
      clear hgx e0 e1 e2;have m1:IntKind.i64.wrap ((r:Int)-1)=(r':Int):=by rw[yQ _ (by omega)];omega
      have m2:0≤(r':Int):=by omega
      have hrg:decide ((r:Int)>0)=true:=by simp;omega
      go_upto_region 9 with (fail)
      refine zR 99 (fun w'=>w'.cell? ⟨g,r',none⟩=some (B C (j:Int))∧w'.cell? ⟨b,off+j*3,none⟩=some (B C t')∧w'.cell? ⟨b,off+j*3+1,none⟩=some (B C s')∧w'.cell? ⟨b,off+j*3+2,none⟩=some (B C q'')∧w'.cell? ⟨b,off+i*3,none⟩=some (B C t)∧w'.cell? ⟨b,off+i*3+1,none⟩=some (B C s)∧w'.cell? ⟨b,off+i*3+2,none⟩=some (B C q')) ?_;refine zS 15 [(0,28),(1,29),(2,30),(3,31),(4,32),(5,33),(6,34),(7,35),(8,36),(9,37),(10,38),(11,39),(12,40),(13,41),(14,42)] kS ?_;iterate 15 (apply zT;exact⟨rfl,rfl⟩;(·intro _ _;go_simp;try with_reducible rfl);simp only[kA];exact rfl)
      refine zN (zO 15 (fun K hK=>?_));go_simp;refine (sA t' s' q'' t s q' _).mono ?_;rintro e w3 ⟨rfl,hx3⟩;rw[←HCV.out];have kS3:w3.cell? ⟨g,r',none⟩=some (B C (j:Int))∧w3.cell? ⟨b,off+j*3,none⟩=some (B C t')∧w3.cell? ⟨b,off+j*3+1,none⟩=some (B C s')∧w3.cell? ⟨b,off+j*3+2,none⟩=some (B C q'')∧w3.cell? ⟨b,off+i*3,none⟩=some (B C t)∧w3.cell? ⟨b,off+i*3+1,none⟩=some (B C s)∧w3.cell? ⟨b,off+i*3+2,none⟩=some (B C q'):=⟨hx3.cell kS.1,hx3.cell kS.2.1,hx3.cell kS.2.2.1,hx3.cell kS.2.2.2.1,hx3.cell kS.2.2.2.2.1,hx3.cell kS.2.2.2.2.2.1,hx3.cell kS.2.2.2.2.2.2⟩
      have HX3:Bx (ab w1 w3):=⟨HX.out.1.drew.trans hx3⟩
      clear hx3;refine hK.out _ _ (fun _=>(kS3)) ?_;clear hK K;try simp only[kA]
      refine zS 2 [(16,44),(17,45)] kS3 ?_;iterate 2 (apply zT;exact⟨rfl,rfl⟩;(·intro _ _;go_simp;try with_reducible rfl);simp only[kA];exact rfl)
      refine zN (zD ?_);clear kS kS3 m1;by_cases hc0:0<cv
      ·have HH:Bx (qZ l (i:Int) (j:Int)=true):=⟨by rw[HLT.out];exact decide_eq_true hc0⟩
       go_wp2_with fail;go_roundw
       case rel =>refine⟨r',by congr;omega,by omega,⟨⟨HX3.out,fun x hx=>?_⟩⟩⟩;rw[hxo.out]at hx;injection hx with hx;subst hx;exact HH.out
       case measure=>simp[intOf];omega
      ·have HXe:=HX3;have HH:Bx ((∀x,out[r]?=some x→qZ l (i:Int) x=true)∧∀x,r≠0→out[r-1]?=some x→qZ l (i:Int) x=false):=by
        refine⟨⟨HX.out.2,fun x _ hx=>?_⟩⟩;rw[show r-1=r' by omega,hxo.out]at hx;injection hx with hx;subst hx;rw[HLT.out];exact decide_eq_false hc0
       clear HX HE2 HX3;obtain⟨Az,hAz⟩:=nm (some ⟨g,0,none⟩:Option Addr);rw[←hAz]at HI HO;rw[←hAz];clear hAz;have HIr:=zZ ((HI.out.ext HXe.out).take hr);have HDr:=zZ ((HI.out.ext HXe.out).drop hr);have hso:=HO.out;go_wp2_with (first
        |(at_builtin;refine dj _ rfl (.tmp 48) (.tmp 51) 22 rfl w3.heap.size 3 i0 _ 8 underlying22 hi0 hz0 hz1 hz2 rfl (D none 0 0) 0 [] rfl (yW _ _ _ _) b Az r co (out.take r) rfl HIr.out (by omega) (by omega) (zX _) ?_;intro v4 w4 hown4 hg4;have HE4:=zZ (ab.grown (zE w3) hg4 (by simp[Value.ownBlock]));have HO4:=zZ hown4;clear hown4 hg4)
        |(at_builtin;refine al _ rfl (.tmp 53) (.tmp 55) 22 rfl w3.heap.size 3 i0 _ 8 underlying22 hi0 hz0 hz1 hz2 rfl v4 _ _ rfl (HO4.out.alloc _) _ _ rfl (by simp;rfl) rfl (by omega) (by omega) (by have:=HE4.out.size;simp;omega) ?_;intro v5 w5 hown5 hg5;have HE5:=zZ (ab.grown (HE4.out.alloc _) hg5 (ar HO4.out));have HO5:=zZ hown5;clear hown5 hg5)
        |(at_builtin;refine dj _ rfl (.tmp 57) (.tmp 60) 22 rfl w3.heap.size 3 i0 _ 8 underlying22 hi0 hz0 hz1 hz2 rfl v5 _ _ rfl HO5.out b _ (n'-r) (co-r) (out.drop r) rfl (HDr.out.ext HE5.out) (by omega) (by omega) (HE5.out.size) ?_;intro v6 w6 hown6 hg6;have HE6:=zZ (ab.grown HE5.out hg6 (ar HO5.out));have HO6:=zZ hown6;clear hown6 hg6))
       go_roundw
       case rel =>
        refine⟨i+1,n'+1,out.take r++[(i:Int)]++out.drop r,by go_num,by omega,by simp;omega,by simp;omega,by omega,⟨⟨?_,HS.out.put HV.out.2.2 (by have:=HL.out;omega) hb.out (by have:=HI.out.len;omega) HH.out.1 HH.out.2,(HE.out.trans HXe.out).trans HE6.out⟩⟩⟩;have h5:=bo HO6.out (base':=w.heap.size) (by have:=HE.out.size;have:=HXe.out.size;omega);have e:0+r+1+(n'-r)=(out.take r++[(i:Int)]++out.drop r).length:=by simp;omega
        rw[e]at h5;simpa using h5
       case measure=>simp[intOf];omega
     ·have HH:Bx ((∀x,out[r]?=some x→qZ l (i:Int) x=true)∧∀x,r≠0→out[r-1]?=some x→qZ l (i:Int) x=false):=⟨⟨HX.out.2,fun x h=>absurd (by omega) h⟩⟩
      have hxd:ab w1 wr.drew:=HX.out.1.drew;have kS:True:=trivial;go_upto_region 9 with (fail)
      refine zR 99 (fun _=>True) ?_;refine zS 3 [(0,28),(1,29),(2,30)] kS ?_;iterate 3 (apply zT;exact⟨rfl,rfl⟩;(·intro _ _;go_simp;try with_reducible rfl);simp only[kA];exact rfl)
      refine zN (zS 14 [(3,31),(4,32),(5,33),(6,34),(7,35),(8,36),(9,37),(10,38),(11,39),(12,40),(13,41),(14,42),(15,43),(16,44)] kS ?_);iterate 14 (apply zK;exact⟨rfl,rfl⟩;simp only[kA];exact rfl)
      refine zN (zS 1 [(17,45)] kS ?_);(apply zT;exact⟨rfl,rfl⟩;(·intro _ _;go_simp;try with_reducible rfl);simp only[kA];exact rfl);refine zN (zD ?_);obtain⟨w3,hw3⟩:=nm (wr.drew:World);rw[←hw3]at hxd;have HXe:Bx (ab w1 w3):=⟨hxd⟩
      rw[←hw3];clear hw3 hxd HX HE2 kS;have HIr:=zZ ((HI.out.ext HXe.out).take hr);have HDr:=zZ ((HI.out.ext HXe.out).drop hr);have hso:=HO.out;go_wp2_with (first
       |(at_builtin;refine dj _ rfl (.tmp 48) (.tmp 51) 22 rfl w3.heap.size 3 i0 _ 8 underlying22 hi0 hz0 hz1 hz2 rfl (D none 0 0) 0 [] rfl (yW _ _ _ _) b Ao r co (out.take r) rfl HIr.out (by omega) (by omega) (zX _) ?_;intro v4 w4 hown4 hg4;have HE4:=zZ (ab.grown (zE w3) hg4 (by simp[Value.ownBlock]));have HO4:=zZ hown4;clear hown4 hg4)
       |(at_builtin;refine al _ rfl (.tmp 53) (.tmp 55) 22 rfl w3.heap.size 3 i0 _ 8 underlying22 hi0 hz0 hz1 hz2 rfl v4 _ _ rfl (HO4.out.alloc _) _ _ rfl (by simp;rfl) rfl (by omega) (by omega) (by have:=HE4.out.size;simp;omega) ?_;intro v5 w5 hown5 hg5;have HE5:=zZ (ab.grown (HE4.out.alloc _) hg5 (ar HO4.out));have HO5:=zZ hown5;clear hown5 hg5)
       |(at_builtin;refine dj _ rfl (.tmp 57) (.tmp 60) 22 rfl w3.heap.size 3 i0 _ 8 underlying22 hi0 hz0 hz1 hz2 rfl v5 _ _ rfl HO5.out b _ (n'-r) (co-r) (out.drop r) rfl (HDr.out.ext HE5.out) (by omega) (by omega) (HE5.out.size) ?_;intro v6 w6 hown6 hg6;have HE6:=zZ (ab.grown HE5.out hg6 (ar HO5.out));have HO6:=zZ hown6;clear hown6 hg6))
      go_roundw
      case rel =>
       refine⟨i+1,n'+1,out.take r++[(i:Int)]++out.drop r,by go_num,by omega,by simp;omega,by simp;omega,by omega,⟨⟨?_,HS.out.put HV.out.2.2 (by have:=HL.out;omega) hb.out (by have:=HI.out.len;omega) HH.out.1 HH.out.2,(HE.out.trans HXe.out).trans HE6.out⟩⟩⟩;have h5:=bo HO6.out (base':=w.heap.size) (by have:=HE.out.size;have:=HXe.out.size;omega);have e:0+r+1+(n'-r)=(out.take r++[(i:Int)]++out.drop r).length:=by simp;omega
       rw[e]at h5;simpa using h5
      case measure=>simp[intOf];omega
  ·obtain rfl:i=n:=by omega
   obtain⟨Ao,co,hu⟩:=pY HR.out.1;have hno:out.length=no:=by omega
   rw[hno]at hu;subst hu;clear hno;go_wp2_with fail;go_ret2
   exact⟨_,out,rfl,HR.out.1,by rw[HL.out];exact HR.out.2.1,HR.out.2.2⟩
theorem AO(l:List UInt8):(ba l).toList=l:=by rw[ByteArray.toList_eq];simp[ba]
theorem Im{xt xs xq xk xct xts xtq xlp xlc xlg xlv yt ys yq yk yct yts ytq ylp ylc ylg ylv:Int}{xstr ystr:List UInt8}{xch ych:List Int}:((⟨⟨xt,xs,xq⟩,xk,xstr,xct,xch,⟨xts,xtq⟩,⟨xlp,xlc,xlg,xlv⟩⟩:aF)=⟨⟨yt,ys,yq⟩,yk,ystr,yct,ych,⟨yts,ytq⟩,⟨ylp,ylc,ylg,ylv⟩⟩) ↔
  (xt=yt∧xs=ys∧xq=yq)∧xk=yk∧(ba xstr).toList=(ba ystr).toList∧xct=yct∧xch=ych∧(xts=yts∧xtq=ytq)∧(xlp=ylp∧xlc=ylc∧xlg=ylg∧xlv=ylv):=by
 rw[aF.eq_iff,eD.eq_iff,jd.eq_iff,cU.eq_iff,AO,AO]
theorem CV(xt xs xq xk xct xts xtq xlp xlc xlg xlv yt ys yq yk yct yts ytq ylp ylc ylg ylv:Int)(xstr ystr:List UInt8)(xch ych:List Int)(xA yA:Option Addr)(xn xcc yn ycc:Nat)(w:World)(ha:ao p w (D xA xn xcc) xch)(hb:ao q w (D yA yn ycc) ych) :
  Calls prog 95 #[.agg #[B C xt,B C xs,B C xq,B C xk,.string (ba xstr),B C xct,D xA xn xcc,B C xts,B C xtq,B C xlp,B C xlc,B C xlg,B C xlv],.agg #[B C yt,B C ys,B C yq,B C yk,.string (ba ystr),B C yct,D yA yn ycc,B C yts,B C ytq,B C ylp,B C ylc,B C ylg,B C ylv]] w fun e w'=>e=.returned (.bool (decide ((⟨⟨xt,xs,xq⟩,xk,xstr,xct,xch,⟨xts,xtq⟩,⟨xlp,xlc,xlg,xlv⟩⟩:aF)=⟨⟨yt,ys,yq⟩,yk,ystr,yct,ych,⟨yts,ytq⟩,⟨ylp,ylc,ylg,ylv⟩⟩)))∧ab w w':=by
 have e1:=fun W=>D3 xt xs xq yt ys yq W;have e2:=fun W=>rJ xts xtq yts ytq W;have e3:=fun W=>lY xlp xlc xlg xlv ylp ylc ylg ylv W;have g1:=vj;have g2:=li;have g3:=fZ;have HA:Bx (ao p w (D xA xn xcc) xch∧ao q w (D yA yn ycc) ych):=⟨⟨ha,hb⟩⟩
 clear ha hb;go_enter func95,ntmps95
 go_wp2_with (go_at_call 12;refine (dH _ _ xch ych _ (HA.out.1.ext (((zE _).alloc _).alloc _)) (HA.out.2.ext (((zE _).alloc _).alloc _))).mono ?_;rintro e w1 ⟨rfl,hx1⟩;have HE:=zZ ((((zE w).alloc _).alloc _).trans hx1);have q07:w1.cell? ⟨w.heap.size,7,none⟩=some (B C xts):=hx1.cell (by simp[go_sem,xG,xF]);have q08:w1.cell? ⟨w.heap.size,8,none⟩=some (B C xtq):=hx1.cell (by simp[go_sem,xG,xF]);have q09:w1.cell? ⟨w.heap.size,9,none⟩=some (B C xlp):=hx1.cell (by simp[go_sem,xG,xF]);have q010:w1.cell? ⟨w.heap.size,10,none⟩=some (B C xlc):=hx1.cell (by simp[go_sem,xG,xF]);have q011:w1.cell? ⟨w.heap.size,11,none⟩=some (B C xlg):=hx1.cell (by simp[go_sem,xG,xF]);have q012:w1.cell? ⟨w.heap.size,12,none⟩=some (B C xlv):=hx1.cell (by simp[go_sem,xG,xF]);have q17:w1.cell? ⟨w.heap.size+1,7,none⟩=some (B C yts):=hx1.cell (by simp[go_sem,xG,xF]);have q18:w1.cell? ⟨w.heap.size+1,8,none⟩=some (B C ytq):=hx1.cell (by simp[go_sem,xG,xF]);have q19:w1.cell? ⟨w.heap.size+1,9,none⟩=some (B C ylp):=hx1.cell (by simp[go_sem,xG,xF]);have q110:w1.cell? ⟨w.heap.size+1,10,none⟩=some (B C ylc):=hx1.cell (by simp[go_sem,xG,xF]);have q111:w1.cell? ⟨w.heap.size+1,11,none⟩=some (B C ylg):=hx1.cell (by simp[go_sem,xG,xF]);have q112:w1.cell? ⟨w.heap.size+1,12,none⟩=some (B C ylv):=hx1.cell (by simp[go_sem,xG,xF]);clear hx1);all_goals (go_ret;refine⟨aa ?_,?_⟩)
 all_goals (first|exact HE.out|exact ((zE _).alloc _).alloc _|(rw[yE];simp only[decide_eq_true_eq,Im];simp_all)|skip)
 all_goals trace_state
end Go.Proofs.YtjgfgdcaocbfhaaGreat

