import Derived.Test.YtkaajgoeahahpaaGreatDoorK14
import Derived.StillTailTactics
import Derived.BigRegion
set_option linter.all false
set_option maxRecDepth 100000
set_option maxHeartbeats 0
namespace Go.Proofs.YtkaajgoeahahpaaGreatDoor
open Go.Value renaming int→B,slice→D
open Go.IntKind renaming i64→C
open Go.RowKit
variable {c s:List UInt8} {k m n:Nat}
def vk(s:List UInt8):List Int:=if bd s then bY s else []
def vd(s:List UInt8):Int:=if bd s then 0 else 7
theorem lD(h:bd s=true):vk s=bY s/\vd s=0:=by unfold vk vd;rw[h];exact⟨rfl,rfl⟩
theorem Iq(h:bd s=false):vk s=[]/\vd s=7:=by unfold vk vd;rw[h];exact⟨rfl,rfl⟩
def Dq(s:List UInt8)(w:World)(e:Ending)(w':World):Prop:=∃A n cc k,e=.returned (.tuple #[D A n cc,B C k])/\k=vd s/\ak w'.heap.size w' (D A n cc) (vk s)/\ab w w'
theorem FV{l:List UInt8}{x:UInt8}(hm:m<5)(h:l[7+5*k+m]?=some x):(ft l k)[m]?=some x:=by unfold ft;rw[yB,if_pos hm,vR];exact h
theorem Fx(b:List UInt8)(x:UInt8):E8 (b++[x])=2*E8 b+(x.toNat-48):=by unfold E8;rw[uR];rfl
structure jC (c:List UInt8) (m n:Nat):Prop where
 lt:n<2 ^ m
 eq:63 ∉ c.take m->n=E8 (c.take m)
theorem jC.zero(c:List UInt8):jC c 0 0:=⟨by decide,fun _=>rfl⟩
theorem jC.step{d:Nat}{x:UInt8}(h:jC c m n)(hx:c[m]?=some x)(hd:d<2)(he:x≠63->d=x.toNat-48):jC c (m+1) (2*n+d):=by
 refine⟨?_,fun hn=>?_⟩
 ·have:=h.lt;rw[Nat.pow_succ];omega
 ·rw[ax hx]at hn⊢;rw[zM]at hn;have h1:63 ∉ c.take m:=fun e=>hn (.inl e);have h2:x≠63:=fun e=>hn (.inr (by rw[e];simp));rw[Fx,<-h.eq h1,<-he h2]
theorem Bg(h:c.count 63=0)(hb:jC c 5 n)(hl:c.length=5):jj c=(n:Int):=by have h1:63 ∉ c:=List.count_eq_zero.1 h;unfold jj;rw[if_neg h1,hb.eq (by rw[bh hl];exact h1),bh hl]
theorem mw(s:List UInt8)(h:k<12):(bY s).take (k+1)=(bY s).take k++[jj (ft s k)]:=ax (yy s h)
theorem tD(h:bd s=true):∀x∈bY s,aU x:=fun x hx=>by have:=(ew (mE h)).2.2 x hx;constructor<;>omega
theorem BM{s:ByteArray}{q:Nat}(h:bd (bl s)=true)(hq:q<s.size):(s[q].toNat:Int)=48\/(s[q].toNat:Int)=49\/(s[q].toNat:Int)=63:=by have:=(gh.1 h).2 _ (zW (nJ hq));rcases this with e|e|e<;>rw[e]<;>simp
open _root_.Go.Proofs.Tryz
theorem Ie:∀(n:Fin 16) (d:Fin 2),bits BinOp.or IntKind.i64 ((n.val:Int)*2) (d.val:Int)=((2*n.val+d.val:Nat):Int):=by decide +kernel
def CG(l:List UInt8)(k:Nat)(u:Int):List Int:=(bY l).take k++u::List.replicate (11-k) 0
theorem Kx(l:List UInt8)(u:Int)(hk:k<12):(CG l k u)[k]?=some u:=by unfold CG;rw[yL (by rw[yW,dc];omega),yW,dc,show k-min k 12=0 by omega];rfl
theorem wv(l:List UInt8)(u v:Int)(hk:k<12):(CG l k u).set k v=CG l k v:=by unfold CG;rw[vO _ _ (by rw[yW,dc];omega),yW,dc,show k-min k 12=0 by omega];rfl
theorem FH(l:List UInt8)(hk:k<11):CG l k (jj (ft l k))=CG l (k+1) 0:=by unfold CG;rw[mw l (by omega),show 11-k=(11-(k+1))+1 by omega,vD,xY];rfl
theorem Ik(l:List UInt8):CG l 11 (jj (ft l 11))=bY l:=by have h:=mw l (k:=11) (by omega);rw[bh (dc l)]at h;rw[h];rfl
def Kd(l:List UInt8)(k:Nat):List Int:=if k<12 then CG l k 0 else bY l
theorem Bj(l:List UInt8)(hk:k<12):CG l k (jj (ft l k))=Kd l (k+1):=by
 unfold Kd;by_cases h:k+1<12
 ·rw[if_pos h,FH l (by omega)]
 ·rw[if_neg h];obtain rfl:k=11:=by omega
  exact Ik l
theorem Jq(h:c[m]?=some 63):jj c=-1:=by unfold jj;rw[if_pos (zW h)]
structure JN (c:List UInt8) (m n:Nat):Prop where
 b:jC c m n
 no:63 ∉ c.take m
theorem JN.step{c:List UInt8}{m n d:Nat}{x:UInt8}(h:JN c m n)(hx:c[m]?=some x)(hd:d<2)(he:x.toNat=48+d):JN c (m+1) (2*n+d):=by
 refine⟨h.b.step hx hd (fun _=>by omega),?_⟩;rw[ax hx,zM];rintro (e|e)
 ·exact h.no e
 ·simp at e;rw[<-e]at he;simp at he;omega
theorem JN.all(h:JN c 5 n)(hl:c.length=5):jj c=(n:Int):=by have:=h.no;rw[bh hl]at this;exact Bg (List.count_eq_zero.2 this) h.b hl
theorem FY(s:ByteArray)(w:World):Calls prog 106 #[.string s] w (Dq (bl s) w):=by
 rcases yS (bd (bl s)) with hb|hb
 ·have hs:s.size=74:=by rw[<-aO];exact (gh.1 hb).1
  have h74:74<=s.size:=by omega
  have h75:s.size<=74:=by omega
  have HW:Bx (vk (bl s)=bY (bl s)/\vd (bl s)=0):=⟨lD hb⟩
  have HB:Bx (bd (bl s)=true):=⟨hb⟩
  have HL:Bx ((bl s).length=74):=⟨by rw[aO];exact hs⟩
  clear hs;obtain⟨z,hz⟩:=nm (madeCells #[Value.int .i64 0] 12);have hmk:∀w,(Instr.makeSlice 22 (B C 12) (B C 12)).run prog w=.ok (D (some ⟨w.heap.size,0,none⟩) 12 12) (w.alloc (.cells z 3)):=by rw[hz];exact lf 12 (by omega)
  have HO0:Bx ((w.alloc (.cells z 3)).ownsRow w.heap.size 3 1 (D (some ⟨w.heap.size,0,none⟩) 12 12) 12 ((Kd (bl s) 0).map (Value.int .i64))):=⟨by rw[hz,lA];exact uT w _ 12 (zX _) (by unfold maxLen;omega) rfl⟩
  clear hz;go_enter func106,ntmps106
  go_wp2_with fail;refine (fk _ _).mono ?_;rintro r w1 ⟨rfl,rfl⟩;rw[hb];go_wp2_with fail;clear hb;go_loopw [5,6,7,14,17] (fun _ _ _ i _ wr=>∃k:Nat,k<=12/\i=B C k/\Bx (wr.ownsRow w.heap.size 3 1 (D (some ⟨w.heap.size,0,none⟩) 12 12) 12 ((Kd (bl s) k).map (Value.int .i64)))/\Bx (ab w wr)) (fun _ _ _ i _ _=>12-(intOf i).toNat)
  case atStart=>exact⟨0,by omega,rfl,HO0,⟨(zE _).alloc _⟩⟩
  case round =>
   obtain⟨k,hk,rfl,HO,HE⟩:=hrel;clear HO0 hmk;by_cases hlt:k<12
   ·have hd:decide ((k:Int)<12)=true:=by simp;omega
    have HCL:Bx ((ft (bl s) k).length=5):=⟨rf HL.out hlt⟩
    have HO1:Bx (wr.ownsRow w.heap.size 3 1 (D (some ⟨w.heap.size,0,none⟩) 12 12) 12 ((CG (bl s) k ((0:Nat):Int)).map (Value.int .i64))):=⟨by have:=HO.out;unfold Kd at this;rw[if_pos hlt]at this;exact this⟩
    clear HO;go_wp2_with fail;obtain⟨wo,hwo⟩:=nm (wr:World);subst hwo;go_loopw [6,7,17] (fun _ _ i wr=>∃m n:Nat,m<=5/\n<32/\i=B C m/\Bx (JN (ft (bl s) k) m n)/\Bx (wr.ownsRow w.heap.size 3 1 (D (some ⟨w.heap.size,0,none⟩) 12 12) 12 ((CG (bl s) k (n:Int)).map (Value.int .i64)))/\Bx (ab w wr)) (fun _ _ i _=>5-(intOf i).toNat)
    case atStart=>exact⟨0,0,by omega,by omega,rfl,⟨⟨jC.zero _,by simp⟩⟩,HO1,HE⟩
    case round =>
     obtain⟨m,n,hm,hn,rfl,HR,HOm,HEm⟩:=hrel;clear HO1 HE;by_cases hm5:m<5
     ·obtain⟨q,hq0⟩:=nm (7+k*5+m);have hq:q<s.size:=by omega
      have HC:Bx ((ft (bl s) k)[m]?=some s[q]):=⟨FV hm5 (by rw[show 7+5*k+m=q by omega];exact nJ hq)⟩
      have eq1:(7:Int)+(k:Int)*5+(m:Int)=(q:Int):=by omega
      have hnm:n<16:=by have:=HR.out.b.lt;have h4:(2:Nat) ^ m<=2 ^ 4:=Nat.pow_le_pow_right (by omega) (by omega);omega
      clear hq0;have cc:wr.cell? ⟨w.heap.size,k,none⟩=some (B C (n:Int)):=by rw[HOm.out.cellAt k (by omega)];simp[Kx (bl s) _ hlt]
      have cf:=HOm.out.frozenAt k;rcases BM HB.out hq with a1|a1|a1
      ·have HS:Bx (JN (ft (bl s) k) (m+1) (2*n+0)):=⟨HR.out.step HC.out (by omega) (by omega)⟩
       have hor:bits BinOp.or IntKind.i64 ((n:Int)*2) 0=((2*n+0:Nat):Int):=Ie ⟨n,hnm⟩ ⟨0,by omega⟩;obtain⟨n2,hn2⟩:=nm (2*n+0);rw[<-hn2]at hor HS;have h32:n2<32:=by omega
       have HO2:Bx ((wr.setCell ⟨w.heap.size,k,none⟩ (B C (n2:Int))).ownsRow w.heap.size 3 1 (D (some ⟨w.heap.size,0,none⟩) 12 12) 12 ((CG (bl s) k (n2:Int)).map (Value.int .i64))):=⟨by rw[<-wv (bl s) (n:Int) (n2:Int) hlt];exact ug HOm.out⟩
       have HE2:Bx (ab w (wr.setCell ⟨w.heap.size,k,none⟩ (B C (n2:Int)))):=⟨HEm.out.setCell (zX _) _⟩
       clear hn2 HC HR HOm HEm;go_wp2_with fail;go_roundw
       case rel=>exact⟨m+1,n2,by omega,by omega,by go_num,HS,HO2,HE2⟩
       case measure=>simp[intOf];omega
      ·have HS:Bx (JN (ft (bl s) k) (m+1) (2*n+1)):=⟨HR.out.step HC.out (by omega) (by omega)⟩
       have hor:bits BinOp.or IntKind.i64 ((n:Int)*2) 1=((2*n+1:Nat):Int):=Ie ⟨n,hnm⟩ ⟨1,by omega⟩;obtain⟨n2,hn2⟩:=nm (2*n+1);rw[<-hn2]at hor HS;have h32:n2<32:=by omega
       have HO2:Bx ((wr.setCell ⟨w.heap.size,k,none⟩ (B C (n2:Int))).ownsRow w.heap.size 3 1 (D (some ⟨w.heap.size,0,none⟩) 12 12) 12 ((CG (bl s) k (n2:Int)).map (Value.int .i64))):=⟨by rw[<-wv (bl s) (n:Int) (n2:Int) hlt];exact ug HOm.out⟩
       have HE2:Bx (ab w (wr.setCell ⟨w.heap.size,k,none⟩ (B C (n2:Int)))):=⟨HEm.out.setCell (zX _) _⟩
       clear hn2 HC HR HOm HEm;go_wp2_with fail;go_roundw
       case rel=>exact⟨m+1,n2,by omega,by omega,by go_num,HS,HO2,HE2⟩
       case measure=>simp[intOf];omega
      ·have HV:Bx (jj (ft (bl s) k)=-1):=⟨Jq (by rw[HC.out];exact congrArg some (UInt8.toNat_inj.1 (show s[q].toNat=(63:UInt8).toNat by simp;omega)))⟩
       have HO2:Bx ((wr.setCell ⟨w.heap.size,k,none⟩ (B C (-1))).ownsRow w.heap.size 3 1 (D (some ⟨w.heap.size,0,none⟩) 12 12) 12 ((Kd (bl s) (k+1)).map (Value.int .i64))):=⟨by rw[<-Bj (bl s) hlt,HV.out,<-wv (bl s) (n:Int) (-1) hlt];exact ug HOm.out⟩
       have HE2:Bx (ab w (wr.setCell ⟨w.heap.size,k,none⟩ (B C (-1)))):=⟨HEm.out.setCell (zX _) _⟩
       clear HC HR HOm HEm;go_wp2_with fail;go_roundw
       case rel=>exact⟨k+1,by omega,by go_num,HO2,HE2⟩
       case measure=>simp[intOf];omega
     ·obtain rfl:m=5:=by omega
      have HO2:Bx (wr.ownsRow w.heap.size 3 1 (D (some ⟨w.heap.size,0,none⟩) 12 12) 12 ((Kd (bl s) (k+1)).map (Value.int .i64))):=⟨by rw[<-Bj (bl s) hlt,HR.out.all HCL.out];exact HOm.out⟩
      clear HR HOm;go_wp2_with fail;go_roundw
      case rel=>exact⟨k+1,by omega,by go_num,HO2,HEm⟩
      case measure=>simp[intOf];omega
   ·obtain rfl:k=12:=by omega
    have hI:Bx (ak wr.heap.size wr (D (some ⟨w.heap.size,0,none⟩) 12 12) (bY (bl s))):=⟨qq HO.out (tD HB.out) (by rw[dc];omega)⟩
    clear HO;go_wp2_with fail;go_ret2
    exact⟨_,_,_,_,rfl,HW.out.2.symm,by rw[HW.out.1];exact hI.out,HE.out⟩
 ·have HW:Bx (vk (bl s)=[]/\vd (bl s)=7):=⟨Iq hb⟩
  go_enter func106,ntmps106
  go_wp2_with fail;refine (fk _ _).mono ?_;rintro r w1 ⟨rfl,rfl⟩;rw[hb];go_wp2_with fail;go_ret2
  exact⟨_,_,_,_,rfl,HW.out.2.symm,by rw[HW.out.1];exact ak.nil _ _,zE _⟩
def Fy(l:List Int)(d:List F)(er k:Int):Prop :=
 (cD (-1) l=false->d=[]/\er=0/\k=2)/\(cD (-1) l=true->(∃(cw:List F) (n:Nat),pn l cw n/\d=cw.take (l.length-6)/\er=n/\k=0)\/((∀cw n,¬pn l cw n)/\d=[]/\er=0/\k=25))
theorem Gx{l:List Int}{d d':List F}{er er' k k':Int}(h:Fy l d er k)(h':Fy l d' er' k'):d=d'/\er=er'/\k=k':=by
 rcases yS (cD (-1) l) with hb|hb
 ·have h15:=(ew hb).2.1;rcases h.2 hb with ⟨c,n,h1,h2,h3,h4⟩|⟨h1,h2,h3,h4⟩<;>rcases h'.2 hb with ⟨c',n',g1,g2,g3,g4⟩|⟨g1,g2,g3,g4⟩
  ·obtain⟨rfl,rfl⟩:=Ez (by omega) h1 g1;exact⟨by rw[h2,g2],by rw[h3,g3],by rw[h4,g4]⟩
  ·exact absurd h1 (g1 _ _)
  ·exact absurd g1 (h1 _ _)
  ·exact⟨by rw[h2,g2],by rw[h3,g3],by rw[h4,g4]⟩
 ·obtain⟨h2,h3,h4⟩:=h.1 hb;obtain⟨g2,g3,g4⟩:=h'.1 hb;exact⟨by rw[h2,g2],by rw[h3,g3],by rw[h4,g4]⟩
def dz(d:List F)(i:Nat):Int:=((d.getD i 0).n:Int)
theorem fT(d:List F)(i:Nat):0<=dz d i/\dz d i<32:=by have:=(d.getD i 0).lt;unfold dz;omega
def fK(d:List F):Int:=1024*dz d 1+32*dz d 2+dz d 3
def iZ(s:List UInt8)(p c g v n k:Int):Prop :=
 (iM s≠0->p=0/\c=0/\g=0/\v=0/\n=0/\k=iM s) /\
 (iM s=0->∃d er kk,Fy (bY (jm s)) d er kk/\(kk≠0->p=0/\c=0/\g=0/\v=0/\n=0/\k=25) /\
  (kk=0->(9999<fK d->p=0/\c=0/\g=0/\v=0/\n=0/\k=2)/\(fK d<=9999->p=dz d 0/\c=fK d/\g=dz d 4/\v=dz d 5/\n=er/\k=0)))
theorem tm{p c g v n k p' c' g' v' n' k':Int}(h:iZ s p c g v n k)(h':iZ s p' c' g' v' n' k'):p=p'/\c=c'/\g=g'/\v=v'/\n=n'/\k=k':=by
 by_cases hu:iM s=0
 ·obtain⟨d,er,kk,h1,h2,h3⟩:=h.2 hu;obtain⟨d',er',kk',h1',h2',h3'⟩:=h'.2 hu;obtain⟨rfl,rfl,rfl⟩:=Gx h1 h1';by_cases hk:kk=0
  ·by_cases hc:fK d<=9999
   ·have:=(h3 hk).2 hc;have:=(h3' hk).2 hc;omega
   ·have:=(h3 hk).1 (by omega);have:=(h3' hk).1 (by omega);omega
  ·have:=h2 hk;have:=h2' hk;omega
 ·have:=h.1 hu;have:=h'.1 hu;omega
def DD(s:List UInt8)(w:World)(e:Ending)(w':World):Prop :=
 ∃p c g v n k,e=.returned (.tuple #[.agg #[B C p,B C c,B C g,B C v],B C n,B C k])/\iZ s p c g v n k/\aU p/\aU c/\aU g/\aU v/\aU n/\aU k/\ab w w'
theorem JT{l:List Int}{d:List F}{er k:Int}(hw:cD (-1) l=true)(h:Fy l d er k):(k=0/\d.length=l.length-6/\0<=er/\er<=6)\/(k=25/\d=[]/\er=0):=by
 rcases h.2 hw with ⟨cw,n,h1,h2,h3,h4⟩|⟨h1,h2,h3,h4⟩
 ·have hn:n<=6:=by have:=h1.near;omega
  exact .inl ⟨h4,by rw[h2,yW,h1.len];omega,by omega,by omega⟩
 ·exact .inr ⟨h4,h2,h3⟩
theorem Ib{p:Nat}{w:World}{A:Option Addr}{c:Nat}{d:List F}(h:ak p w (D A n c) (wI d))(hn:d.length=6):∃b off,A=some ⟨b,off,none⟩/\n=6/\∀k,k<6->w.cell? ⟨b,off+k,none⟩=some (B C (dz d k)):=by
 have h6:n=6:=by have:=h.len;rw[aT]at this;omega
 obtain⟨b,off,rfl,_⟩:=qy h (k:=0) (by omega);refine⟨b,off,rfl,h6,fun k hk=>?_⟩;obtain⟨b',off',h1,h2⟩:=qy h (k:=k) (by omega);injection h1 with h1;injection h1 with hb ho;subst hb;subst ho;exact h2
theorem Gl(s:ByteArray)(w:World)(hT:cK w):Calls prog 68 #[.string s] w (DD (bl s) w):=by
 have HT:Bx (cK w):=⟨hT⟩
 clear hT;have HE0:Bx (ab w (w.alloc (.cells #[B C 0,B C 0,B C 0,B C 0] 45))):=⟨(zE _).alloc _⟩
 go_enter func68,ntmps68
 go_wp2_with fail;refine (BX s _).mono ?_;rintro e w1 ⟨t,k,rfl,hk,ht,hx1⟩;have hbk:=hx1.blk (heap_alloc_new w _);have HX:Bx (ab w w1):=⟨HE0.out.trans hx1⟩
 have HBT:Bx (bl t=jm (bl s)):=⟨ht⟩
 have HK:Bx (k=iM (bl s)):=⟨hk⟩
 have HBK:Bx (w1.heap[w.heap.size]?=some (.cells #[B C 0,B C 0,B C 0,B C 0] 45 (0,0))):=⟨hbk⟩
 clear hx1 ht hk hbk HE0;by_cases hu:k=0
 ·subst hu;have HST:Bx (bd (bl t)=true):=⟨by rw[HBT.out];exact tA HK.out.symm⟩
  go_wp2_with fail;refine (FY t _).mono ?_;rintro e w2 ⟨A2,n2,c2,k2,rfl,hk2,hi2,hx2⟩;rw[(lD HST.out).2]at hk2;rw[(lD HST.out).1,HBT.out]at hi2;subst hk2;have HI:Bx (ak w2.heap.size w2 (D A2 n2 c2) (bY (jm (bl s)))):=⟨hi2⟩
  replace HX:Bx (ab w w2):=⟨HX.out.trans hx2⟩
  replace HBK:Bx (w2.heap[w.heap.size]?=some (.cells #[B C 0,B C 0,B C 0,B C 0] 45 (0,0))):=⟨hx2.blk HBK.out⟩
  clear hi2 hx2;go_wp2_with fail;refine (K8 _ _ _ (HT.out.ext HX.out) HI.out).mono ?_;rintro e w3 ⟨A3,n3,c3,d,er,kk,rfl,hi3,hx3,f3,t3⟩;have HDF:Bx (Fy (bY (jm (bl s))) d er kk):=⟨⟨f3,t3⟩⟩
  have HI3:Bx (ak w3.heap.size w3 (D A3 n3 c3) (wI d)):=⟨hi3⟩
  replace HX:Bx (ab w w3):=⟨HX.out.trans hx3⟩
  replace HBK:Bx (w3.heap[w.heap.size]?=some (.cells #[B C 0,B C 0,B C 0,B C 0] 45 (0,0))):=⟨hx3.blk HBK.out⟩
  have HWW:Bx (cD (-1) (bY (jm (bl s)))=true):=⟨mE (by rw[<-HBT.out];exact HST.out)⟩
  clear hi3 hx3 f3 t3 HI;have z0:=ac HBK.out (i:=0) rfl;have z1:=ac HBK.out (i:=1) rfl;have z2:=ac HBK.out (i:=2) rfl;have z3:=ac HBK.out (i:=3) rfl;have f0:=ae HBK.out 0;have f1:=ae HBK.out 1;have f2:=ae HBK.out 2;have f3:=ae HBK.out 3;rcases JT HWW.out HDF.out with ⟨rfl,hl,her0,her6⟩|⟨rfl,hd,he⟩
  ·rw[dc]at hl;obtain⟨b,off,rfl,rfl,hcd⟩:=Ib HI3.out hl;have c0:=hcd 0 (by omega);have c1:=hcd 1 (by omega);have c2:=hcd 2 (by omega);have c3:=hcd 3 (by omega);have c4:=hcd 4 (by omega);have c5:=hcd 5 (by omega);rw[yQ]at c0;clear hcd hl;obtain⟨d0l,d0h⟩:=fT d 0;obtain⟨d1l,d1h⟩:=fT d 1;obtain⟨d2l,d2h⟩:=fT d 2;obtain⟨d3l,d3h⟩:=fT d 3;obtain⟨d4l,d4h⟩:=fT d 4;obtain⟨d5l,d5h⟩:=fT d 5;have HCZ:Bx ((dz d 1*32+dz d 2)*32+dz d 3=fK d):=⟨by unfold fK;omega⟩
   have HRF:Bx (∀p c g v n k,(9999<fK d->p=0/\c=0/\g=0/\v=0/\n=0/\k=2)->(fK d<=9999->p=dz d 0/\c=fK d/\g=dz d 4/\v=dz d 5/\n=er/\k=0)->iZ (bl s) p c g v n k):=⟨fun p c g v n k g1 g2=>⟨fun h=>absurd HK.out.symm h,fun _=>⟨d,er,0,HDF.out,fun h=>absurd rfl h,fun _=>⟨g1,g2⟩⟩⟩⟩
   generalize dz d 0=x0 at *
   generalize dz d 1=x1 at *
   generalize dz d 2=x2 at *
   generalize dz d 3=x3 at *
   generalize dz d 4=x4 at *
   generalize dz d 5=x5 at *
   generalize fK d=cz at *
   have e1:IntKind.i64.wrap (x1*32)=x1*32:=yN _ (by omega);have e2:IntKind.i64.wrap (x1*32+x2)=x1*32+x2:=yN _ (by omega);have e3:IntKind.i64.wrap ((x1*32+x2)*32)=(x1*32+x2)*32:=yN _ (by omega);have e4:IntKind.i64.wrap ((x1*32+x2)*32+x3)=cz:=by rw[yN _ (by omega)];exact HCZ.out
   have hz1:cz<=32767:=by have:=HCZ.out;omega
   have hz0:0<=cz:=by have:=HCZ.out;omega
   clear HT HI3 HDF HWW HBT HK HST;go_wp2_with fail;go_quiet (fail)
   clear e1 e2 e3 e4;replace HBK:Bx ((w3.drewN nq).heap[w.heap.size]?=some (.cells #[B C 0,B C 0,B C 0,B C 0] 45 (0,0))):=HBK;replace HX:Bx (ab w (w3.drewN nq)):=⟨HX.out.drewN _⟩
   replace c0:(w3.drewN nq).cell? ⟨b,off,none⟩=_:=c0;replace c4:(w3.drewN nq).cell? ⟨b,off+4,none⟩=_:=c4;replace c5:(w3.drewN nq).cell? ⟨b,off+5,none⟩=_:=c5;replace z0:(w3.drewN nq).cell? ⟨w.heap.size,0,none⟩=_:=z0;replace z1:(w3.drewN nq).cell? ⟨w.heap.size,1,none⟩=_:=z1;replace z2:(w3.drewN nq).cell? ⟨w.heap.size,2,none⟩=_:=z2;replace z3:(w3.drewN nq).cell? ⟨w.heap.size,3,none⟩=_:=z3;replace f0:(w3.drewN nq).frozen? ⟨w.heap.size,0,none⟩=_:=f0;replace f1:(w3.drewN nq).frozen? ⟨w.heap.size,1,none⟩=_:=f1;replace f2:(w3.drewN nq).frozen? ⟨w.heap.size,2,none⟩=_:=f2;replace f3:(w3.drewN nq).frozen? ⟨w.heap.size,3,none⟩=_:=f3;clear c1 c2 c3;generalize w3.drewN nq=w4 at *
   clear HCZ;by_cases hcz:9999<cz
   ·go_wp2_with fail;refine bodyPost_ret (v:=.tuple #[.agg #[B C 0,B C 0,B C 0,B C 0],B C 0,B C 2]) (by simp[results,results68,go_sem,z0,z1,z2,z3]) rfl ⟨0,0,0,0,0,2,rfl,HRF.out _ _ _ _ _ _ (fun _=>⟨rfl,rfl,rfl,rfl,rfl,rfl⟩) (fun h=>by omega),by decide,by decide,by decide,by decide,by decide,by decide,?_⟩;exact (((HX.out.setCell (zX _) _).setCell (zX _) _).setCell (zX _) _).setCell (zX _) _
   ·go_wp2_with fail;go_region
    go_wp2_with fail;refine bodyPost_ret (v:=.tuple #[.agg #[B C x0,B C cz,B C x4,B C x5],B C er,B C 0]) (by simp[results,results68,go_sem,z0,z1,z2,z3]) rfl ⟨x0,cz,x4,x5,er,0,rfl,HRF.out _ _ _ _ _ _ (fun h=>by omega) (fun _=>⟨rfl,rfl,rfl,rfl,rfl,rfl⟩),⟨by omega,by omega⟩,⟨by omega,by omega⟩,⟨by omega,by omega⟩,⟨by omega,by omega⟩,⟨by omega,by omega⟩,by decide,?_⟩;exact ab.drew ((((HX.out.setCell (zX _) _).setCell (zX _) _).setCell (zX _) _).setCell (zX _) _)
  ·subst hd;subst he;have HRF:Bx (iZ (bl s) 0 0 0 0 0 25):=⟨⟨fun h=>absurd HK.out.symm h,fun _=>⟨[],0,25,HDF.out,fun _=>⟨rfl,rfl,rfl,rfl,rfl,rfl⟩,fun h=>by omega⟩⟩⟩
   clear HT HI3 HDF HWW HBT HK HST;go_wp2_with fail;refine bodyPost_ret (v:=.tuple #[.agg #[B C 0,B C 0,B C 0,B C 0],B C 0,B C 25]) (by simp[results,results68,go_sem,z0,z1,z2,z3]) rfl ⟨0,0,0,0,0,25,rfl,HRF.out,by decide,by decide,by decide,by decide,by decide,by decide,?_⟩;exact (((HX.out.setCell (zX _) _).setCell (zX _) _).setCell (zX _) _).setCell (zX _) _
 ·have e1:(k != 0)=true:=bne_iff_ne.2 hu;have HRF:Bx (iZ (bl s) 0 0 0 0 0 k):=⟨⟨fun _=>⟨rfl,rfl,rfl,rfl,rfl,HK.out⟩,fun h=>absurd (HK.out.trans h) hu⟩⟩
  have hk:aU k:=by have:=HK.out;unfold iM at this;constructor<;>(split at this<;>(try split at this)<;>(try split at this)<;>omega)
  have HKI:Bx (aU k):=⟨hk⟩
  have z0:=ac HBK.out (i:=0) rfl;have z1:=ac HBK.out (i:=1) rfl;have z2:=ac HBK.out (i:=2) rfl;have z3:=ac HBK.out (i:=3) rfl;have f0:=ae HBK.out 0;have f1:=ae HBK.out 1;have f2:=ae HBK.out 2;have f3:=ae HBK.out 3;clear HT HBT HK hk;go_wp2_with fail;refine bodyPost_ret (v:=.tuple #[.agg #[B C 0,B C 0,B C 0,B C 0],B C 0,B C k]) (by simp[results,results68,go_sem,z0,z1,z2,z3]) rfl ⟨0,0,0,0,0,k,rfl,HRF.out,by decide,by decide,by decide,by decide,by decide,HKI.out,?_⟩;exact (((HX.out.setCell (zX _) _).setCell (zX _) _).setCell (zX _) _).setCell (zX _) _
end Go.Proofs.YtkaajgoeahahpaaGreatDoor

