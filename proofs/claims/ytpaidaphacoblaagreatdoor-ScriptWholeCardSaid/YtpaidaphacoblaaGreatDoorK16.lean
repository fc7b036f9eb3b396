import Derived.Test.YtpaidaphacoblaaGreatDoorK15
import Derived.Laws.CopyOwn
set_option linter.all false
set_option maxRecDepth 100000
set_option maxHeartbeats 0
namespace Go.Proofs.YtpaidaphacoblaaGreatDoor
open Go.Value renaming int→B
open Go.IntKind renaming i64→C
open Go.RowKit _root_.Go.Proofs.Tryz
variable {f:Int} {l:List Int} {p:Nat}
theorem Ji(x c:F)(l:List F):F.ev x (l++[c])=F.ev x l*x+c:=by
 rw[F.ev_app,show [c].length=1 from rfl,F.pwr_one];congr 1
 show c*F.pwr x 0+0=c
 show c*1+0=c
 rw[F.mul_one,F.add_zero]
theorem IQ{x:F}{l:List F}{k:Nat}(h:k<l.length):F.ev x (l.take (k+1))=F.ev x (l.take k)*x+l.getD k 0:=by rw[List.take_add_one,F.getD_eq h];exact Ji _ _ _
def K2(f:Int)(l:List Int)(k:Nat):Prop:=∀i,i<k->f<=l.getD i 0/\l.getD i 0<32
theorem Hl{n:Nat}(h:K2 f l n)(hl:l.length=n)(h7:7<=n)(h15:n<=15):cD f l=true :=
 mO (by omega) (by omega) fun x hx=>by obtain⟨i,hi,rfl⟩:=List.getElem_of_mem hx;have:=h i (by omega);rw[xU,zV hi]at this;exact this
theorem Bp{x:Int}{k:Nat}(hx:l[k]?=some x)(h:x<f\/31<x):cD f l=false:=by
 rcases yS (cD f l) with hb|hb
 ·have:=(ew hb).2.2 x (zW hx);omega
 ·exact hb
theorem ze(h:l.length<7\/15<l.length):cD f l=false:=by
 rcases yS (cD f l) with hb|hb
 ·have:=ew hb;omega
 ·exact hb
theorem ia(v:Value)(l:List Int)(f:Int)(w:World)(hI:ak p w v l)(f1:-10<=f)(f2:f<=10) :
  Calls prog 162 #[v,B C f] w fun e w'=>e=.returned (.bool (cD f l))/\ab w w':=by
 obtain⟨A,n,c,rfl,hnc,hc,hnn,HL⟩:=hI.open_;have HI:=zZ hI;clear hI;by_cases h7:n<7
 ·go_enter func162,ntmps162
  go_wp2_with fail;go_ret
  exact⟨aa (ze (.inl (by rw[HL.out];exact h7))).symm,zE _⟩
 by_cases h15:15<n
 ·go_enter func162,ntmps162
  go_wp2_with fail;go_ret
  exact⟨aa (ze (.inr (by rw[HL.out];exact h15))).symm,zE _⟩
 go_enter func162,ntmps162
 go_wp2_with fail;go_loopw [5] (fun s5 wr=>∃(k:Nat),s5=B C (k:Int)/\k<=n/\Hid (K2 f l k/\ab w wr)) (fun i _=>n-(intOf i).toNat)
 case atStart=>exact⟨0,rfl,by omega,fun i hi=>by omega,zE _⟩
 case round =>
  obtain⟨k,rfl,hk,HK⟩:=hrel;by_cases hkn:k<n
  ·obtain⟨b,off,x,rfl,cx,hx,hx1,hx2⟩:=(HI.out.ext HK.out.2).at_ hkn;by_cases hlo:x<f
   ·go_wp2_with fail;go_ret
    exact⟨aa (Bp hx.out (.inl hlo)).symm,HK.out.2⟩
   by_cases hhi:31<x
   ·go_wp2_with fail;go_ret
    exact⟨aa (Bp hx.out (.inr hhi)).symm,HK.out.2⟩
   go_wp2_with fail;go_roundw
   case rel =>
    refine⟨k+1,by go_num,by omega,fun i hi=>?_,HK.out.2⟩;rcases zU i k with h|h
    ·exact HK.out.1 i h
    ·obtain rfl:i=k:=by omega
     rw[xU,hx.out];show f<=x/\x<32
     omega
   case measure=>simp[intOf];omega
  ·obtain rfl:k=n:=by omega
   go_wp2_with fail;go_ret
   exact⟨aa (Hl HK.out.1 HL.out (by omega) (by omega)).symm,HK.out.2⟩
theorem yz(v:Value)(wd:List F)(j:Nat)(w:World)(hI:ak p w v (wI wd))(hj:j<=1000) :
  Calls prog 130 #[v,B C (j:Int)] w fun e w'=>e=.returned (B C ((F.ev (F.gp j) wd).n:Int))/\ab w w':=by
 obtain⟨A,n,c,rfl,hnc,hc,hnn,HL0⟩:=hI.open_;have HL:Hid (wd.length=n):=by have:=HL0.out;rw[aT]at this;exact this
 have HI:=zZ hI;clear hI HL0;go_enter func130,ntmps130
 go_wp2_with fail;refine (yr j _ (by omega)).mono ?_;rintro e w1 ⟨rfl,hx1⟩;replace HI:=zZ (HI.out.ext hx1);replace hx1:=zZ hx1;generalize hgx:F.gp j=x;go_wp2_with fail;go_loopw [5,7] (fun s5 s7 wr=>∃(k:Nat) (y:F),s5=B C (y.n:Int)/\s7=B C (k:Int)/\k<=n/\Hid (y=F.ev x (wd.take k)/\ab w1 wr)) (fun _ i _=>n-(intOf i).toNat)
 case atStart=>exact⟨0,0,rfl,rfl,by omega,rfl,zE _⟩
 case round =>
  obtain⟨k,y,rfl,rfl,hk,HK⟩:=hrel;by_cases hkn:k<n
  ·obtain⟨b,off,rfl,cx⟩:=qy (HI.out.ext HK.out.2) hkn;have hxor:=pD (y*x) (wd.getD k 0);have HY:Hid (y*x+wd.getD k 0=F.ev x (wd.take (k+1))):=by show _=_;rw[IQ (by rw[HL.out];exact hkn),HK.out.1]
   generalize wd.getD k 0=d at *
   have HQ:Hid (∀n,Calls prog 132 #[B C (y.n:Int),B C (x.n:Int)] (wr.drewN n) fun e w'=>e=.returned (B C ((y*x).n:Int))/\∃n',w'=(wr.drewN n).drewN n'):=fun n=>(CB y x _).mono fun _ _ ⟨h1,h2⟩=>⟨h1,0,by rw[h2];rfl⟩
   go_wp2_with fail;go_quiet ((go_at_call 132;exact Calls.quiet_of (HQ.out _)))
   go_wp2_with fail;go_roundw
   case rel=>exact⟨k+1,_,rfl,by go_num,by omega,HY.out,HK.out.2.drewN _⟩
   case measure=>simp[intOf];omega
  ·obtain rfl:k=n:=by omega
   have HY:Hid (y=F.ev x wd):=by have h:=HK.out.1;rw[xV (by rw[HL.out];omega)]at h;exact h
   go_wp2_with fail;go_ret
   exact⟨by rw[HY.out,hgx];rfl,hx1.out.trans HK.out.2⟩
def CH(wd:List F)(k:Nat):Prop:=∀j,1<=j->j<=k->F.ev (F.gp j) wd=0
theorem FF(hb:cD 0 l=true)(h:CH (bv l) 6):iG l=true:=by unfold iG;rw[hb,yK];exact (qG _).2 h
theorem Gi{j:Nat}(hb:cD 0 l=true)(h1:1<=j)(h6:j<=6)(h:F.ev (F.gp j) (bv l)≠0):iG l=false:=by
 rcases yS (iG l) with hc|hc
 ·unfold iG at hc;rw[hb,yK]at hc;exact absurd ((qG _).1 hc j h1 h6) h
 ·exact hc
theorem sg(v:Value)(l:List Int)(w:World)(hI:ak p w v l) :
  Calls prog 133 #[v] w fun e w'=>e=.returned (.bool (iG l))/\ab w w':=by
 have HI:=zZ hI;clear hI;rcases yS (cD 0 l) with hb|hb
 ·have HB:=zZ hb;have HW:=zZ (ww (ew hb).2.2);go_enter func133,ntmps133
  go_wp2_with fail;refine (ia _ l 0 _ HI.out (by omega) (by omega)).mono ?_;rintro e w1 ⟨rfl,hx1⟩;rw[hb];replace HI:=zZ (HI.out.ext hx1);replace hx1:=zZ hx1;clear hb;go_wp2_with fail;go_loopw [3] (fun s3 wr=>∃(k:Nat),s3=B C (k:Int)/\1<=k/\k<=7/\Hid (CH (bv l) (k-1)/\ab w1 wr)) (fun i _=>7-(intOf i).toNat)
  case atStart=>exact⟨1,rfl,by omega,by omega,fun j h1 h2=>by omega,zE _⟩
  case round =>
   obtain⟨k,rfl,hk1,hk7,HK⟩:=hrel;by_cases hk:k<=6
   ·go_upto_if 14 with (go_at_call 130;refine (yz _ (bv l) k _ (by rw[HW.out];exact HI.out.ext HK.out.2) (by omega)).mono ?_;rintro e w2 ⟨rfl,hx2⟩)
    have HX2:=zZ (HK.out.2.trans hx2);clear hx2;by_cases he:F.ev (F.gp k) (bv l)=0
    ·have HZ:Hid (CH (bv l) (k+1-1)):=by
      intro j h1 h2;rcases zU j k with h|h
      ·exact HK.out.1 j h1 (by omega)
      ·obtain rfl:j=k:=by omega
       exact he
     rw[he];have hz0:((0:F).n:Int)=0:=rfl;rw[hz0];clear he hz0;go_wp2_with fail;go_roundw
     case rel=>exact⟨k+1,by go_num,by omega,by omega,HZ.out,HX2.out⟩
     case measure=>simp[intOf];omega
    ·have HC:Hid (iG l=false):=Gi HB.out hk1 hk he;have hn:(F.ev (F.gp k) (bv l)).n≠0:=fun e=>he (F.ext e);have hlt:=(F.ev (F.gp k) (bv l)).lt;generalize F.ev (F.gp k) (bv l)=y at *
     clear he;go_wp2_with fail;go_ret
     exact⟨aa HC.out.symm,hx1.out.trans HX2.out⟩
   ·have HC:Hid (iG l=true):=FF HB.out (by rw[show 6=k-1 by omega];exact HK.out.1);go_wp2_with fail;go_ret
    exact⟨aa HC.out.symm,hx1.out.trans HK.out.2⟩
 ·have HF:Hid (iG l=false):=by show _=_;unfold iG;rw[hb];rfl
  go_enter func133,ntmps133
  go_wp2_with fail;refine (ia _ l 0 _ HI.out (by omega) (by omega)).mono ?_;rintro e w1 ⟨rfl,hx1⟩;rw[hb];go_wp2_with fail;go_ret
  exact⟨aa HF.out.symm,hx1⟩
def xl{α:Type}(z:α)(l:List α)(ps:List Nat):List α:=ps.foldl (fun a p=>a.set p z) l
section
variable {α:Type} {z:α}
theorem uj(l:List α)(ps:List Nat):(xl z l ps).length=l.length:=by
 induction ps generalizing l with
 |nil=>rfl
 |cons p ps ih=>show (xl z (l.set p z) ps).length=_;rw[ih,yF]
theorem F1(l:List α)(ps:List Nat)(p:Nat):xl z l (ps++[p])=(xl z l ps).set p z:=by unfold xl;rw[uR];rfl
theorem vt(l:List α)(ps:List Nat)(i:Nat):(xl z l ps)[i]?=if i<l.length/\i∈ps then some z else l[i]?:=by
 induction ps generalizing l with
 |nil=>rw[if_neg (by simp)];rfl
 |cons p ps ih =>
  show (xl z (l.set p z) ps)[i]?=_
  rw[ih,yF,yD];by_cases h1:i<l.length
  ·by_cases h2:i∈ps
   ·rw[if_pos ⟨h1,h2⟩,if_pos ⟨h1,vN _ h2⟩]
   ·rw[if_neg (fun h=>h2 h.2)];by_cases h3:p=i
    ·subst h3;rw[if_pos rfl,if_pos h1,if_pos ⟨h1,vM⟩]
    ·rw[if_neg h3,if_neg (fun h=>by rcases yM.1 h.2 with e|e;exact h3 e.symm;exact h2 e)]
  ·rw[if_neg (show ¬(i<l.length/\i∈ps) from fun h=>h1 h.1),if_neg (show ¬(i<l.length/\i∈p::ps) from fun h=>h1 h.1)];by_cases h3:p=i
   ·subst h3;rw[if_pos rfl,if_neg h1,zC (by omega)]
   ·rw[if_neg h3]
end
theorem Cq{i:Nat}{x:Int}(h:l[i]?=some x):(bv l)[i]?=some (F.mk (x.toNat%32) (xI _ (by decide))):=by unfold bv;rw[zP,h];rfl
theorem Ks{ps:List Nat}(h:∀i x,i ∉ ps->l[i]?=some x->0<=x/\x<32):xl 0 l ps=wI (xl 0 (bv l) ps):=by
 apply xW;intro i;unfold wI;rw[zP,vt,vt,bt];by_cases h1:i<l.length/\i∈ps
 ·rw[if_pos h1,if_pos h1];rfl
 ·rw[if_neg h1,if_neg h1];rcases zU i l.length with hi|hi
  ·have hx:=zV hi;obtain⟨a,b⟩:=h i _ (fun hm=>h1 ⟨hi,hm⟩) hx;rw[hx,Cq hx];show some _=some ((F.n (F.mk _ _):Nat):Int)
   rw[F.n_mk];congr 1
   omega
  ·rw[zC hi,zC (by rw[bt];exact hi)];rfl
theorem EM{wd:List F}{ps:List Nat}{xs:List F}{x:F}(hl:ps.length=xs.length)(hp:p ∉ ps)(h0:wd.getD p 0=0):F.addAt wd (ps++[p]) (xs++[x])=(F.addAt wd ps xs).set p x:=by rw[mB _ _ _ _ _ hl,xU,F.addAt_off ps xs wd hp,<-xU,h0,F.zero_add]
section
variable {base eS eI p:Nat} {w0 w w':World} {v v':Value} {ls:List (List Int)}
theorem lT.push{u:Value}(h:lT base eS eI w0 v ls)(hx:ab w0 w)(hb:base<=w0.heap.size)(hu:w.ownsRow w0.heap.size eI 1 u l.length (l.map (Value.int .i64)))(hne:eS≠eI){us:List Value}(hus:w0.ownsRow base eS 1 v ls.length us)(hg:w.grownBy w' v.ownBlock)(h':w'.ownsRow base eS 1 v' (ls.length+1) (us++[u])) :
  lT base eS eI w' v' (ls++[l]):=by
 obtain⟨us0,a,b,c,d⟩:=h;obtain rfl:=rR b hus;have b1:=ao b hx;have keep:∀{b0:Nat} {z:Value} {n:Nat} {xs:List Value},w.ownsRow b0 eI 1 z n xs->w'.ownsRow b0 eI 1 z n xs:=fun hz =>aJ hz hg (fun k hk=>cA hz b1 (Ne.symm hne) k hk)
 have at0:∀(j:Nat) (y:Value),(us0++[u])[j]?=some y->(j<ls.length/\us0[j]?=some y)\/(j=ls.length/\y=u):=by
  intro j y hy;rcases zU j ls.length with hj|hj
  ·rw[yY (by omega)]at hy;exact .inl ⟨hj,hy⟩
  ·rw[yL (by omega)]at hy;have:j-us0.length=0:=by
    rcases vE (j-us0.length) with h|h
    ·exact h
    ·rw[zC (by show 1<=_;exact h)]at hy;cases hy
   rw[this]at hy;exact .inr ⟨by omega,by simpa using hy.symm⟩
 have low:∀(j:Nat) (y:Value) (k:Nat),us0[j]?=some y->y.ownBlock=some k->k<w0.heap.size:=fun j y k hy hk=>by
  have hj:j<ls.length:=by rw[<-a];exact (zY.1 hy).1
  exact ((c j y _ hy (zV hj)).lt k hk).2
 refine⟨us0++[u],by simp[a],by simpa using h',fun j y m hy hm=>?_,fun i j y y' k hij hy hy' hk=>?_⟩
 ·rcases at0 j y hy with ⟨hj,hy⟩|⟨rfl,rfl⟩
  ·rw[yY hj]at hm;exact keep (ao (c j y m hy hm) hx)
  ·rw[yL (zX _),vH]at hm;obtain rfl:l=m:=by simpa using hm
   exact gM (keep hu) hb
 ·rcases at0 i y hy with ⟨hi,hz⟩|⟨hi,hz⟩
  ·rcases at0 j y' hy' with ⟨hj,hz'⟩|⟨hj,hz'⟩
   ·exact d i j y y' k hij hz hz' hk
   ·intro e;have h1:=low i y k hz hk;rw[hz']at e;have h2:=aq hu k e;omega
  ·rcases at0 j y' hy' with ⟨hj,hz'⟩|⟨hj,hz'⟩
   ·intro e;have h1:=low j y' k hz' e;rw[hz]at hk;have h2:=aq hu k hk;omega
   ·exact absurd (hi.trans hj.symm) hij
end
end Go.Proofs.YtpaidaphacoblaaGreatDoor

