import Derived.Test.YtkaajgoeahahpaaGreatDoorH6
import Derived.StillTailTactics
import Derived.BigRegion
set_option linter.all false
set_option maxRecDepth 100000
set_option maxHeartbeats 0
namespace Go.Proofs.YtkaajgoeahahpaaGreatDoor
open Go.Value renaming int→C,slice→E
open Go.IntKind renaming i64→D
open Go.RowKit _root_.Go.Proofs.Tryz
variable {l:List Int} {j k m n:Nat} {g p v x:Int} {c s:List UInt8} {w w':World}
def nj(l:List Int)(n k:Nat):List F:=(bv l).take k++List.replicate (n+6-k) 0
theorem zg(hl:l.length=n)(hk:k<=n):(nj l n k).length=n+6:=by unfold nj;rw[yU,yW,bt,uD];omega
theorem F7{y:F}(hl:l.length=n)(hx:l[k]?=some x)(hy:(y.n:Int)=x):(nj l n k).set k y=nj l n (k+1):=by
 have hk:=(zY.1 hx).1;unfold nj;have e1:((bv l).take k).length=k:=by rw[yW,bt];omega
 rw[vO _ _ (by omega),e1,vH,show n+6-k=(n+6-(k+1))+1 by omega,vD,vA];have e2:(bv l)[k]?=some y:=by
  rw[Cq hx];have:x.toNat%32=y.n:=by have:=y.lt;omega
  congr 1
  exact F.ext this
 rw[ax e2,xY];rfl
theorem FP(hl:l.length=n):F.Off (xl 0 (bv (wI (nj l n n))) ((List.range 6).map fun i=>n+i)) (pQ (bv l)) ((List.range 6).map fun i=>n+i):=by
 rw[nH,tP];have e0:(bv l).take n=bv l:=xV (by rw[bt];omega);refine⟨by rw[BR,bt,zg hl (zX _),hl],fun i hi=>?_⟩;unfold nj pQ;rw[e0];rcases zU i n with h|h
 ·rw[yY (by rw[bt];omega),yY (by rw[bt];omega)]
 ·have:n+6<=i:=by
   rcases zU i (n+6) with h2|h2
   ·exact absurd (zF.2 ⟨i-n,yX.2 (by omega),by omega⟩) hi
   ·exact h2
  rw[zC (by rw[yU,bt,(F.enc_code _).2];omega),zC (by rw[yU,bt,uD];omega)]
theorem Cc{q:Nat}(v:Value)(l:List Int)(w:World)(hI:ak q w v l) :
  Calls prog 102 #[v] w fun e w'=>∃A m c,e=.returned (.tuple #[E A m c,C D (mZ l)])/\m=(jI l).length/\m<=c/\c<=9223372036854775807/\w'.ownsRow w.heap.size 3 1 (E A m c) m ((jI l).map (Value.int .i64))/\ab w w':=by
 have h0:=hI.re (q:=w.heap.size) (zX _);obtain⟨A,n,c,rfl,hnc,hc,hnn,HL⟩:=hI.open_;have HI:=zZ h0;clear hI h0;have hbad:∀w',eV l=false->ab w w'->∃A m c,Ending.returned (.tuple #[E none 0 0,C D 2])=.returned (.tuple #[E A m c,C D (mZ l)])/\m=(jI l).length/\m<=c/\c<=9223372036854775807/\w'.ownsRow w.heap.size 3 1 (E A m c) m ((jI l).map (Value.int .i64))/\ab w w':=fun w' hd hx=>by
  refine⟨none,0,0,?_,?_,by omega,by omega,?_,hx⟩
  ·unfold mZ;rw[hd];rfl
  ·unfold jI;rw[hd];rfl
  ·unfold jI;rw[hd];exact yZ _ _ _ _
 have HBAD:=zZ hbad;clear hbad;by_cases h1:n<1
 ·go_enter func102,ntmps102
  go_wp2_with fail;go_ret2
  exact HBAD.out _ (by
   rcases yS (eV l) with h|h
   ·have:=nE h;have:=HL.out;omega
   ·exact h) (zE _)
 by_cases h9:9<n
 ·go_enter func102,ntmps102
  go_wp2_with fail;go_ret2
  exact HBAD.out _ (by
   rcases yS (eV l) with h|h
   ·have:=nE h;have:=HL.out;omega
   ·exact h) (zE _)
 have hmkI:=lf (n+6) (by omega);rw[show (((n+6:Nat)):Int)=(n:Int)+6 by omega]at hmkI;obtain⟨i0,hi0,hz0,hz1,hz2⟩:=info_parts Tryz.infoI;obtain⟨b,o,z,rfl,-⟩:=HI.out.at_ (k:=0) (by omega);have HG0:Hid (eT w.heap.size (w.alloc (.cells (madeCells #[C D 0] (n+6)) 3)) (E (some ⟨w.heap.size,0,none⟩) (n+6) (n+6)) (nj l n 0)):=by
  have h:=heap_alloc_new w (.cells (madeCells #[C D 0] (n+6)) 3);rw[lA]at h⊢;have hz:nj l n 0=List.replicate (n+6) 0:=by simp[nj]
  rw[hz];exact mU h (by rw[uD]) (zX _) (by omega)
 have HE0:=zZ ((zE w).alloc (.cells (madeCells #[C D 0] (n+6)) 3));go_enter func102,ntmps102
 go_wp2_with fail;go_loopw [6] (fun s6 wr=>∃(k:Nat),s6=C D (k:Int)/\k<=n/\Hid ((∀i x,i<k->l[i]?=some x->0<=x/\x<32)/\eT w.heap.size wr (E (some ⟨w.heap.size,0,none⟩) (n+6) (n+6)) (nj l n k)/\ab w wr)) (fun i _=>n-(intOf i).toNat)
 case atStart=>exact⟨0,rfl,by omega,fun i x h=>by omega,HG0.out,HE0.out⟩
 case round =>
  clear HG0 HE0 hmkI;obtain⟨k,rfl,hk,HK⟩:=hrel;have HV:=zZ HK.out.1;have HO:=zZ HK.out.2.1;have HE:=zZ HK.out.2.2;clear HK;have HZL:=zZ (zg (k:=k) HL.out hk);by_cases hkn:k<n
  ·obtain⟨x,cx,hx,hx1,hx2⟩:=(HI.out.ext HE.out).cell_ hkn;rcases yS (iU x) with hel|hel
   ·have hxb:0<=x/\x<32:=by unfold iU at hel;simp at hel;omega
    obtain⟨y,hy⟩:∃y:F,(y.n:Int)=x:=⟨F.mk x.toNat (by omega),by rw[F.n_mk];omega⟩
    subst hy;obtain⟨z0,hz0'⟩:∃z0,(nj l n k)[k]?=some z0:=⟨_,zV (by rw[HZL.out];omega)⟩
    have cy:=HO.out.cell HZL.out hz0';have cf:=HO.out.froz HZL.out k;have HP:=zZ (HO.out.put HZL.out k y);rw[F7 HL.out hx.out rfl]at HP;have HE2:=zZ (HE.out.setCell (p:=⟨w.heap.size,k,none⟩) (zX _) (C D (y.n:Int)));go_wp2_with (go_at_call 142;refine (dM (y.n:Int) _ (by omega) (by omega)).mono ?_;rintro e w1 ⟨rfl,rfl⟩;rw[hel]);go_roundw
    case rel=>exact⟨k+1,by go_num,by omega,fun i x' h1 h2=>(by
     by_cases e:i=k
     ·subst e;rw[hx.out]at h2;injection h2 with h2;omega
     ·exact HV.out i x' (by omega) h2),HP.out,HE2.out⟩
    case measure=>simp[intOf];omega
   ·go_wp2_with (go_at_call 142;refine (dM x _ (by omega) (by omega)).mono ?_;rintro e w1 ⟨rfl,rfl⟩;rw[hel]);go_ret2
    refine HBAD.out _ ?_ HE.out;rcases yS (eV l) with h|h
    ·have:=(nE h).2.2 x (zW hx.out);unfold iU at hel;simp at hel;omega
    ·exact h
  ·obtain rfl:k=n:=by omega
   have HDB:Hid (eV l=true):=BO (by have:=HL.out;omega) (by have:=HL.out;omega) fun x hx=>by obtain⟨i,hi,rfl⟩:=List.getElem_of_mem hx;exact HV.out i _ (by rw[<-HL.out];exact hi) (zV hi)
   obtain⟨W1,hW1⟩:=nm (wr:World);subst hW1;clear HBAD HV;go_wp2_with fail;go_loopw [5,7] (fun s5 s7 wr=>∃(j:Nat),s7=C D (j:Int)/\j<=6/\Hid (wr.ownsRow W1.heap.size 3 1 s5 j ((fW ((List.range j).map fun i=>k+i)).map (Value.int .i64))/\ab W1 wr)) (fun _ i _=>6-(intOf i).toNat)
   case atStart=>exact⟨0,rfl,by omega,yZ _ _ _ _,zE _⟩
   case round =>
    obtain⟨j,rfl,hj,HK⟩:=hrel;have HO5:=zZ HK.out.1;have HE5:=zZ HK.out.2;clear HK;by_cases hj6:j<6
    ·go_wp2_with (at_builtin;refine aF _ rfl (.tmp 45) (.tmp 50) 22 rfl W1.heap.size 3 i0 _ 8 underlying22 hi0 hz0 hz1 hz2 rfl u5 j _ rfl (HO5.out.alloc _) _ _ rfl (by simp;rfl) rfl (by omega) (by omega) (by have:=HE5.out.size;simp;omega) ?_;intro v4 w4 hown4 hg4;have HE4:=zZ (ab.grown (HE5.out.alloc _) hg4 (aq HO5.out));have HO4:=zZ hown4;clear hown4 hg4);go_roundw
     case rel =>
      refine⟨j+1,by go_num,by omega,?_,HE4.out⟩;have e:fW ((List.range (j+1)).map fun i=>k+i)=fW ((List.range j).map fun i=>k+i)++[(k:Int)+(j:Int)]:=by rw[xP,yG];unfold fW;rw[yG];simp
      rw[e,yG];exact HO4.out
     case measure=>simp[intOf];omega
    ·obtain rfl:j=6:=by omega
     have HOW:=zZ (HO.out.ext HE5.out);have HWI:Hid (ak wr.heap.size wr (E (some ⟨w.heap.size,0,none⟩) (k+6) (k+6)) (wI (nj l k k))):=ak.of_own' (p:=wr.heap.size) (e:=3) HOW.out (fun h=>by have:=(HOW.out.lt _ h).2;omega) (jQ _) (by rw[aT,HZL.out];omega);have HPI:Hid (ak wr.heap.size wr u5 (fW ((List.range 6).map fun i=>k+i))):=ak.of_own' (p:=wr.heap.size) (e:=3) HO5.out (fun h=>by have:=(HO5.out.lt _ h).2;omega) (na fun p hp=>by obtain⟨i,hi,rfl⟩:=zF.1 hp;have:=yX.1 hi;omega) (by rw[fd];simp)
     have HF:=zZ (pa (E (some ⟨w.heap.size,0,none⟩) (k+6) (k+6)) u5 (wI (nj l k k)) ((List.range 6).map fun i=>k+i) wr HWI.out HPI.out (by rw[aT,HZL.out];omega) (by rw[aT,HZL.out];omega)
      (List.Pairwise.map _ (fun a b h=>(by omega)) List.nodup_range)
      (fun p hp=>by
       obtain⟨i,hi,rfl⟩:=zF.1 hp;have:=yX.1 hi;rw[aT,HZL.out];omega) (by simp) (fun i x _ hx=>by
       unfold wI at hx;rw[zP,yO]at hx;obtain⟨f,_,rfl⟩:=hx;have:=f.lt;omega))
     have hs5:w.heap.size<=wr.heap.size:=yR HE.out.size HE5.out.size;go_wp2_with (go_at_call 143;refine HF.out.mono ?_;rintro e w1 ⟨g,cp1,cw,rfl,hg1,hg2,hcl,hown,hx1,hoff,huq⟩);go_ret2
     have hcw:pQ (bv l)=cw:=huq _ (FP HL.out) (sO _);have e1:jI l=wI cw:=by unfold jI;rw[if_pos HDB.out,hcw]
     have e2:mZ l=0:=by unfold mZ;rw[if_pos HDB.out]
     rw[e1,e2];refine⟨some ⟨g,0,none⟩,_,cp1,rfl,by rw[aT,aT,hcl,aT],hg1,hg2,?_,(HE.out.trans HE5.out).trans hx1⟩;have:=gM hown hs5;unfold eT at hown;rw[hcl]at hown;exact gM hown hs5
theorem Jw:∀(n:Fin 32) (j:Fin 5),bits BinOp.and IntKind.i64 ((n.val:Int)/2 ^ j.val) 1=((n.val/2 ^ j.val%2:Nat):Int):=by decide +kernel
theorem Eb(hn:n<32)(hj:j<5):bits BinOp.and IntKind.i64 ((n:Int)/2 ^ j) 1=((n/2 ^ j%2:Nat):Int):=Jw ⟨n,hn⟩ ⟨j,hj⟩
theorem Ia:∀(n:Fin 32) (j:Fin 5),(fR n.val).take (5-j.val)=(fR n.val).take (5-(j.val+1))++[nT n.val j.val]:=by decide +kernel
theorem El(hn:n<32)(hj:j<5):(fR n).take (5-j)=(fR n).take (5-(j+1))++[nT n j]:=Ia ⟨n,hn⟩ ⟨j,hj⟩
theorem BE(x:F)(w:World) :
  Calls prog 103 #[C D (x.n:Int)] w fun e w'=>∃t,e=.returned (.string t)/\bl t=fR x.n/\w=w':=by
 have hx:=x.lt;obtain⟨n,hn⟩:=nm x.n;rw[<-hn]at hx⊢;clear hn x;go_enter func103,ntmps103
 go_wp2_with fail;go_loop [3,4] (fun v i=>∃(k:Nat) (s:ByteArray),k<=5/\i=C D ((k:Int)-1)/\v=.string s/\Hid (bl s=(fR n).take (5-k))/\s.size<=5) (fun _ i=>((intOf i)+1).toNat)
 case atStart=>exact⟨5,_,by omega,rfl,rfl,rfl,by decide⟩
 case round =>
  obtain⟨k,s,hk,rfl,rfl,HS,hs⟩:=hrel;by_cases h0:0<k
  ·obtain⟨j,rfl⟩:∃j,k=j+1:=⟨k-1,by omega⟩
   have e1:(((j+1:Nat):Int)-1)=(j:Int):=by omega
   rw[e1];clear e1;have hj:j<64:=by omega
   have HA:=zZ (Eb hx (show j<5 by omega));have HM:=zZ (El hx (show j<5 by omega));rcases Nat.mod_two_eq_zero_or_one (n/2 ^ j) with hb|hb
   ·have e1:(bits BinOp.and IntKind.i64 ((n:Int)/2 ^ j) 1==1)=false:=by rw[HA.out,hb];rfl
    have HN:Hid (bl (s++⟨#[48]⟩)=(fR n).take (5-j)):=by
     show _=_
     rw[pj,HS.out,HM.out];unfold nT;rw[if_neg (by omega)];rfl
    have hz:s.size<=4:=by rw[<-aO,HS.out,yW];omega
    clear hb HA HM;go_wp2_with fail;go_round
    case rel=>exact⟨j,_,by omega,rfl,rfl,HN.out,by rw[ByteArray.size_append,show (ByteArray.mk #[48]).size=1 from rfl];omega⟩
    case measure=>simp[intOf]
   ·have e1:(bits BinOp.and IntKind.i64 ((n:Int)/2 ^ j) 1==1)=true:=by rw[HA.out,hb];rfl
    have HN:Hid (bl (s++⟨#[49]⟩)=(fR n).take (5-j)):=by
     show _=_
     rw[pj,HS.out,HM.out];unfold nT;rw[if_pos hb];rfl
    have hz:s.size<=4:=by rw[<-aO,HS.out,yW];omega
    clear hb HA HM;go_wp2_with fail;go_round
    case rel=>exact⟨j,_,by omega,rfl,rfl,HN.out,by rw[ByteArray.size_append,show (ByteArray.mk #[49]).size=1 from rfl];omega⟩
    case measure=>simp[intOf]
  ·obtain rfl:k=0:=by omega
   go_wp2_with fail;go_ret
   exact⟨s,rfl,by rw[HS.out];rfl,rfl⟩
def mH(p c g v:Int):List F:=pQ (bv (gK p c g v))
theorem kK(p c g v:Int):(mH p c g v).length=12:=by unfold mH;rw[BR,bt];rfl
theorem Fu(p c g v:Int):F.Code (mH p c g v):=sO _
theorem DB{c:Int}(h:dj p c g v=true):wI (bv (gK p c g v))=gK p c g v:=ww fun x hx=>by have:=BZ h x hx;omega
theorem xu{c:Int}(h:dj p c g v=true):jI (gK p c g v)=wI (mH p c g v)/\mZ (gK p c g v)=0:=by have:=Ja (d:=bv (gK p c g v)) (by rw[bt];unfold gK;simp) (by rw[bt];unfold gK;simp);rw[DB h]at this;exact this
def ym(p c g v:Int):List UInt8:=if dj p c g v then eH (mH p c g v) else []
theorem ni{c:Int}(h:dj p c g v=true):ym p c g v=eH (mH p c g v):=by unfold ym;rw[h];rfl
theorem Id{c:Int}(h:dj p c g v=false):ym p c g v=[]:=by unfold ym;rw[h];rfl
def Dp(p c g v:Int)(w:World)(e:Ending)(w':World):Prop:=∃t k,e=.returned (.tuple #[.string t,C D k])/\k=Dn p c g v/\bl t=ym p c g v/\ab w w'
def ji(c:List F)(k:Nat):List UInt8:=List.replicate 7 49++mj (c.take k)
theorem sK{c:List F}(h:k<c.length):ji c (k+1)=ji c k++fR (c.getD k 0).n:=by unfold ji;rw[ax (F.getD_eq h),EJ,xY]
theorem BJ{c:List F}(h:c.length=n):ji c n++List.replicate 7 48=eH c:=by unfold ji eH;rw[bh h]
theorem qF{c:List F}(h:k<=c.length):(ji c k).length=7+5*k:=by unfold ji;rw[yU,mW,yW,uD];omega
theorem sX(p c g v:Int)(w:World) :
  Calls prog 63 #[.agg #[C D p,C D c,C D g,C D v]] w (Dp p c g v w):=by
 rcases yS (dj p c g v) with hb|hb
 ·have S1:=zZ (n9 hb);have D1:=zZ (ni hb);have E1:=zZ (xu hb);have hL:=kK p c g v;generalize mH p c g v=cw at *
  go_enter func63,ntmps63
  go_wp2_with fail;refine (tx p c g v _).mono ?_;rintro e w1 ⟨A1,n1,c1,k1,rfl,hk1,hi1,hx1⟩;rw[S1.out.2]at hk1;rw[S1.out.1]at hi1;subst hk1;have HI:=zZ hi1;have HX:=zZ (ab.trans ((zE _).alloc _) hx1);clear hi1 hx1;go_wp2_with fail;refine (Cc _ (gK p c g v) _ HI.out).mono ?_;rintro e w2 ⟨A2,n2,c2,rfl,hn2,hc2,hc2',ho2,hx2⟩;rw[E1.out.2];rw[E1.out.1]at hn2 ho2;rw[aT,hL]at hn2;subst hn2;have HJ:Hid (ak w2.heap.size w2 (E A2 12 c2) (wI cw)):=qq ho2 (jQ _) (by rw[aT,hL];omega);replace HX:=zZ (HX.out.trans hx2);have HL:=zZ hL;clear ho2 hx2 HI E1 hL;go_wp2_with fail;go_loop [8,9] (fun s i=>∃(k:Nat) (t:ByteArray),k<=12/\i=C D k/\s=.string t/\Hid (bl t=ji cw k)/\t.size<=67) (fun _ i=>12-(intOf i).toNat)
  case atStart=>exact⟨0,_,by omega,rfl,rfl,rfl,by decide⟩
  case round =>
   obtain⟨k,t,hk,rfl,rfl,HT,ht⟩:=hrel;by_cases hlt:k<12
   ·obtain⟨b,off,rfl,hc⟩:=qy HJ.out hlt;have HN:=zZ (sK (c:=cw) (k:=k) (by rw[HL.out];exact hlt));have HNL:=zZ (qF (c:=cw) (k:=k) (by rw[HL.out];omega));generalize cw.getD k 0=y at *
    go_wp2_with fail;refine (BE y _).mono ?_;rintro e w3 ⟨m,rfl,hm,rfl⟩;have hts:t.size=7+5*k:=by rw[<-aO,HT.out,HNL.out]
    have hms:m.size=5:=by rw[<-aO,hm,nN]
    have HM:Hid (bl (t++m)=ji cw (k+1)):=by show _=_;rw[pj,HT.out,hm,HN.out]
    have h1:t.size<=62:=by omega
    have h2:m.size<=5:=by omega
    clear hts hms hm HN HNL HT;go_wp2_with fail;go_round
    case rel=>exact⟨k+1,_,by omega,by go_num,rfl,HM.out,by rw[ByteArray.size_append];omega⟩
    case measure=>simp[intOf];omega
   ·obtain rfl:k=12:=by omega
    have HF:Hid (bl (t++⟨#[48,48,48,48,48,48,48]⟩)=eH cw):=by
     show _=_
     rw[pj,HT.out,<-BJ HL.out];rfl
    clear HT;go_wp2_with fail;go_ret2
    exact⟨_,0,rfl,S1.out.2.symm,by rw[D1.out];exact HF.out,HX.out⟩
 ·have S1:=zZ (tM hb);have D1:=zZ (Id hb);go_enter func63,ntmps63
  go_wp2_with fail;refine (tx p c g v _).mono ?_;rintro e w1 ⟨A1,n1,c1,k1,rfl,hk1,hi1,hx1⟩;rw[S1.out.2]at hk1;subst hk1;have HX:=zZ (ab.trans ((zE _).alloc _) hx1);clear hi1 hx1;go_wp2_with fail;go_ret2
  exact⟨_,2,rfl,S1.out.2.symm,by rw[D1.out];rfl,HX.out⟩
theorem EE:∀(n:Fin 32) (j:Fin 5),(fR n.val).take (4-j.val+1)=(fR n.val).take (4-j.val)++[nT n.val j.val]:=by decide +kernel
theorem Jx(hn:n<32)(hj:m+j=4):(fR n).take (m+1)=(fR n).take m++[nT n j]:=by have:=EE ⟨n,hn⟩ ⟨j,by omega⟩;simp only at this;rw[show 4-j=m by omega]at this;exact this
theorem Jc(b:UInt8)(n:Nat):Lib.repeatL [b] n=List.replicate n b:=by
 induction n with
 |zero=>rfl
 |succ n ih=>rw[vD,<-ih];rfl
theorem Bf(b:UInt8)(n:Nat)(w:World)(hn:n<=1000) :
  Calls prog 93 #[.string ⟨#[b]⟩,C D (n:Int)] w fun e w'=>∃t,e=.returned (.string t)/\bl t=List.replicate n b/\ab w w' :=
 (II ⟨#[b]⟩ n w (by omega) (by rw[show (ByteArray.mk #[b]).size=1 from rfl];omega)).mono fun _ _ ⟨he,hx⟩=>⟨_,he,by rw[Dz];exact Jc b n,hx⟩
theorem KA(w:World):Calls prog 93 #[.string ⟨#[49]⟩,C D 7] w fun e w'=>∃t,e=.returned (.string t)/\bl t=List.replicate 7 49/\ab w w':=Bf 49 7 w (by omega)
theorem KO(w:World):Calls prog 93 #[.string ⟨#[48]⟩,C D 7] w fun e w'=>∃t,e=.returned (.string t)/\bl t=List.replicate 7 48/\ab w w':=Bf 48 7 w (by omega)
theorem DN{T e:TypeId}{B b:Nat}{p:Value}{bs:List Value}(h:Lib.BuilderAtF T e B b p bs w)(hx:ab w w'):Lib.BuilderAtF T e B b p bs w':=by
 obtain⟨hB,v,hb,hown,hne⟩:=h;refine⟨hB,v,hx.blk hb,⟨hown.1,?_⟩,hne⟩;rcases hown.2 with hn|⟨g,cap,cur,fz,hv,hbg,hg,rest⟩
 ·exact .inl hn
 ·exact .inr ⟨g,cap,cur,fz,hv,hbg,hx.blk hg,rest⟩
theorem Hr{T e:TypeId}{B b:Nat}{bs:List Value}(h:Lib.IsBuilderF T e B b bs w)(hx:ab w w'):Lib.IsBuilderF T e B b bs w' :=
 h.elim (fun x=>.inl (DN x hx)) (fun x=>.inr (DN x hx))
def r7(w0 w:World)(l:List UInt8):Prop:=Lib.IsBuilderF 139 5 w0.heap.size w0.heap.size (Lib.byteCells l) w/\ab w0 w
theorem r7.ext{w0:World}{l:List UInt8}(h:r7 w0 w l)(hx:ab w w'):r7 w0 w' l:=⟨Hr h.1 hx,h.2.trans hx⟩
theorem r7.fresh(w:World):r7 w (w.alloc (.cells #[.pointer none,E none 0 0] 139)) []:=⟨Lib.IsBuilderF.of (Lib.fresh_isBuilder _ _ w),(zE _).alloc _⟩
theorem JP(w0 w:World)(l:List UInt8)(c:UInt8)(h:r7 w0 w l)(hl:l.length<=1000000) :
  Calls prog 94 #[.pointer (some ⟨w0.heap.size,0,none⟩),.int .u8 (c.toNat:Int)] w fun e w'=>e=.returned .nilIface/\r7 w0 w' (l++[c]) :=
 (rt w0.heap.size w0.heap.size _ _ w h.1 (by rw[Lib.byteCells_length];omega) h.2.size).mono fun _ _ ⟨he,h1,h2,_⟩=>⟨he,by rw[Lib.byteCells_append];exact .inr h1,xD h.2 h2⟩
theorem IY(w0 w:World)(l:List UInt8)(h:r7 w0 w l)(hl:l.length<=1000000) :
  Calls prog 94 #[.pointer (some ⟨w0.heap.size,0,none⟩),.int .u8 48] w fun e w'=>e=.returned .nilIface/\r7 w0 w' (l++[48]):=JP w0 w l 48 h hl
theorem JB(w0 w:World)(l:List UInt8)(h:r7 w0 w l)(hl:l.length<=1000000) :
  Calls prog 94 #[.pointer (some ⟨w0.heap.size,0,none⟩),.int .u8 49] w fun e w'=>e=.returned .nilIface/\r7 w0 w' (l++[49]):=JP w0 w l 49 h hl
theorem Ln(w0 w:World)(l:List UInt8)(s:ByteArray)(h:r7 w0 w l)(hl:l.length+s.size<=1000000) :
  Calls prog 92 #[.pointer (some ⟨w0.heap.size,0,none⟩),.string s] w fun e w'=>∃n:Nat,e=.returned (.tuple #[C D (n:Int),.nilIface])/\r7 w0 w' (l++bl s) :=
 (ue w0.heap.size w0.heap.size _ s w h.1 (by rw[Lib.byteCells_length];omega) h.2.size).mono fun _ _ ⟨he,h1,h2,_⟩=>⟨_,he,by rw[Lib.byteCells_append];exact .inr h1,xD h.2 h2⟩
theorem Km(w0 w:World)(l:List UInt8)(h:r7 w0 w l) :
  Calls prog 95 #[.pointer (some ⟨w0.heap.size,0,none⟩)] w fun e w'=>∃t,e=.returned (.string t)/\bl t=l/\ab w0 w' :=
 (Ea w0.heap.size w0.heap.size l w h.1 h.2.size).mono fun _ _ ⟨he,_,h2,_⟩=>⟨_,he,Dz l,xD h.2 h2⟩
theorem Gv(p c g v:Int)(w:World)(hT:cK w) :
  Calls prog 53 #[.agg #[C D p,C D c,C D g,C D v]] w (Dp p c g v w):=by
 have HT:=zZ hT;clear hT;rcases yS (dj p c g v) with hb|hb
 ·have S1:=zZ (n9 hb);have D1:=zZ (ni hb);have E1:=zZ (xu hb);have hL:=kK p c g v;generalize mH p c g v=cw at *
  go_enter func53,ntmps53
  go_wp2_with fail;refine (py p c g v _).mono ?_;rintro e w1 ⟨A1,n1,c1,k1,rfl,hk1,hi1,hx1⟩;rw[S1.out.2]at hk1;rw[S1.out.1]at hi1;subst hk1;have HI:=zZ hi1;have HX:=zZ (ab.trans ((zE _).alloc _) hx1);clear hi1 hx1;go_wp2_with fail;refine (En _ (gK p c g v) _ (HT.out.ext HX.out) HI.out).mono ?_;rintro e w2 ⟨A2,n2,c2,rfl,hn2,hc2,hc2',ho2,hx2⟩;rw[E1.out.2];rw[E1.out.1]at hn2 ho2;rw[aT,hL]at hn2;subst hn2;have HJ:Hid (ak w2.heap.size w2 (E A2 12 c2) (wI cw)):=qq ho2 (jQ _) (by rw[aT,hL];omega);replace HX:=zZ (HX.out.trans hx2);have HL:=zZ hL;clear ho2 hx2 HI E1 hL;go_wp2_with fail;refine (KA _).mono ?_;rintro e w3 ⟨t3,rfl,ht3,hx3⟩;have HB:=zZ ((r7.fresh w2).ext hx3);have HT3:=zZ ht3;have hz3:t3.size<=7:=by rw[<-aO,ht3];simp
  clear hx3 ht3;go_wp2_with fail;refine (Ln w2 _ _ t3 HB.out (by simp;omega)).mono ?_;rintro e w4 ⟨n4,rfl,hb4⟩;rw[HT3.out]at hb4;have HB4:Hid (r7 w2 w4 (ji cw 0)):=by
   show r7 w2 w4 (ji cw 0)
   have:ji cw 0=[]++List.replicate 7 49:=by unfold ji;simp[mj]
   rw[this];exact hb4
  clear hb4 HB HT3 hz3;go_wp2_with fail;go_loopw [9,10,31,35] (fun _ _ i _ wr=>∃k:Nat,k<=12/\i=C D k/\Hid (r7 w2 wr (ji cw k))) (fun _ _ i _ _=>12-(intOf i).toNat)
  case atStart=>exact⟨0,by omega,rfl,HB4⟩
  case round =>
   obtain⟨k,hk,rfl,HB⟩:=hrel;clear HB4;by_cases hlt:k<12
   ·obtain⟨b,off,rfl,hc⟩:=qy (HJ.out.ext HB.out.2) hlt;have HN:=zZ (sK (c:=cw) (k:=k) (by rw[HL.out];exact hlt));have HNL:=zZ (qF (c:=cw) (k:=k) (by rw[HL.out];omega));generalize cw.getD k 0=y at *
    have hy:=y.lt;generalize y.n=n at *
    have hd:decide ((k:Int)<12)=true:=by simp;omega
    go_wp2_with fail;obtain⟨wo,hwo⟩:=nm (wr:World);subst hwo;go_loopw [10,35] (fun _ i wr=>∃m:Nat,m<=5/\i=C D m/\Hid (r7 w2 wr (ji cw k++(fR n).take m))) (fun _ i _=>5-(intOf i).toNat)
    case atStart=>exact⟨0,by omega,rfl,by show r7 _ _ _;rw[List.take_zero,xN];exact HB.out⟩
    case round =>
     obtain⟨m,hm,rfl,HBm⟩:=hrel;by_cases hm5:m<5
     ·obtain⟨j,hj⟩:∃j,m+j=4:=⟨4-m,by omega⟩
      have e1:(4:Int)-(m:Int)=(j:Int):=by omega
      have HA:=zZ (Eb hy (show j<5 by omega));have HM:=zZ (Jx hy hj);have HLm:Hid ((ji cw k++(fR n).take m).length<=1000000):=by
       show _<=_
       rw[yU,HNL.out,yW];omega
      have hj64:j<64:=by omega
      rcases Nat.mod_two_eq_zero_or_one (n/2 ^ j) with hb2|hb2
      ·have e2:bits BinOp.and IntKind.i64 ((n:Int)/2 ^ j) 1=0:=by rw[HA.out,hb2];rfl
       have HMM:Hid (ji cw k++(fR n).take m++[48]=ji cw k++(fR n).take (m+1)):=by
        show _=_
        rw[HM.out,xY];unfold nT;rw[if_neg (by omega)]
       clear hb2 HA HM;go_wp2_with fail;refine (IY w2 _ _ HBm.out HLm.out).mono ?_;rintro e w5 ⟨rfl,hb5⟩;rw[HMM.out]at hb5;have HB5:=zZ hb5;clear hb5 HMM;go_wp2_with fail;go_roundw
       case rel=>exact⟨m+1,by omega,by go_num,HB5⟩
       case measure=>simp[intOf];omega
      ·have e2:bits BinOp.and IntKind.i64 ((n:Int)/2 ^ j) 1=1:=by rw[HA.out,hb2];rfl
       have HMM:Hid (ji cw k++(fR n).take m++[49]=ji cw k++(fR n).take (m+1)):=by
        show _=_
        rw[HM.out,xY];unfold nT;rw[if_pos hb2]
       clear hb2 HA HM;go_wp2_with fail;refine (JB w2 _ _ HBm.out HLm.out).mono ?_;rintro e w5 ⟨rfl,hb5⟩;rw[HMM.out]at hb5;have HB5:=zZ hb5;clear hb5 HMM;go_wp2_with fail;go_roundw
       case rel=>exact⟨m+1,by omega,by go_num,HB5⟩
       case measure=>simp[intOf];omega
     ·obtain rfl:m=5:=by omega
      have HB5:Hid (r7 w2 wr (ji cw (k+1))):=by
       show r7 _ _ _
       rw[HN.out];exact HBm.out
      go_wp2_with fail;go_roundw
      case rel=>exact⟨k+1,by omega,by go_num,HB5⟩
      case measure=>simp[intOf];omega
   ·obtain rfl:k=12:=by omega
    have HF:=zZ (BJ HL.out);go_wp2_with fail;refine (KO _).mono ?_;rintro e w6 ⟨t6,rfl,ht6,hx6⟩;have HB6:=zZ (HB.out.ext hx6);have HT6:=zZ ht6;have hz6:t6.size<=7:=by rw[<-aO,ht6];simp
    have HNL:=zZ (qF (c:=cw) (k:=12) (by rw[HL.out];omega));clear ht6 hx6;go_wp2_with fail;refine (Ln w2 _ _ t6 HB6.out (by rw[HNL.out];omega)).mono ?_;rintro e w7 ⟨n7,rfl,hb7⟩;rw[HT6.out,HF.out]at hb7;have HB7:=zZ hb7;clear hb7;go_wp2_with fail;refine (Km w2 _ _ HB7.out).mono ?_;rintro e w8 ⟨t8,rfl,ht8,hx8⟩;have HT8:=zZ ht8;have HX8:=zZ hx8;clear ht8 hx8;go_wp2_with fail;go_ret2
    exact⟨_,0,rfl,S1.out.2.symm,by rw[D1.out];exact HT8.out,HX.out.trans HX8.out⟩
 ·have S1:=zZ (tM hb);have D1:=zZ (Id hb);go_enter func53,ntmps53
  go_wp2_with fail;refine (py p c g v _).mono ?_;rintro e w1 ⟨A1,n1,c1,k1,rfl,hk1,hi1,hx1⟩;rw[S1.out.2]at hk1;subst hk1;have HX:=zZ (ab.trans ((zE _).alloc _) hx1);clear hi1 hx1;go_wp2_with fail;go_ret2
  exact⟨_,2,rfl,S1.out.2.symm,by rw[D1.out];rfl,HX.out⟩
def vk(s:List UInt8):List Int:=if bd s then bY s else []
def vd(s:List UInt8):Int:=if bd s then 0 else 7
theorem lD(h:bd s=true):vk s=bY s/\vd s=0:=by unfold vk vd;rw[h];exact⟨rfl,rfl⟩
theorem Iq(h:bd s=false):vk s=[]/\vd s=7:=by unfold vk vd;rw[h];exact⟨rfl,rfl⟩
def Dq(s:List UInt8)(w:World)(e:Ending)(w':World):Prop:=∃A n cc k,e=.returned (.tuple #[E A n cc,C D k])/\k=vd s/\ak w'.heap.size w' (E A n cc) (vk s)/\ab w w'
theorem FV{l:List UInt8}{x:UInt8}(hm:m<5)(h:l[7+5*k+m]?=some x):(ft l k)[m]?=some x:=by unfold ft;rw[yB,if_pos hm,vR];exact h
theorem Fx(b:List UInt8)(x:UInt8):E8 (b++[x])=2*E8 b+(x.toNat-48):=by unfold E8;rw[uR];rfl
structure jC (c:List UInt8) (m n:Nat):Prop where
 lt:n<2 ^ m
 eq:63 ∉ c.take m->n=E8 (c.take m)
theorem jC.zero(c:List UInt8):jC c 0 0:=⟨by decide,fun _=>rfl⟩
theorem jC.step{d:Nat}{x:UInt8}(h:jC c m n)(hx:c[m]?=some x)(hd:d<2)(he:x≠63->d=x.toNat-48):jC c (m+1) (2*n+d):=by
 refine⟨?_,fun hn=>?_⟩
 ·have:=h.lt;rw[Nat.pow_succ];omega
 ·rw[ax hx]at hn⊢;rw[zM]at hn;have h1:63 ∉ c.take m:=fun e=>hn (.inl e);have h2:x≠63:=fun e=>hn (.inr (by rw[e];simp));rw[Fx,<-h.eq h1,<-he h2]
theorem Bg(h:c.count 63=0)(hb:jC c 5 n)(hl:c.length=5):jj c=(n:Int):=by have h1:63 ∉ c:=List.count_eq_zero.1 h;unfold jj;rw[if_neg h1,hb.eq (by rw[bh hl];exact h1),bh hl]
theorem Iz(h:0<c.count 63):jj c=-1:=by unfold jj;rw[if_pos (List.count_pos_iff.1 h)]
theorem mw(s:List UInt8)(h:k<12):(bY s).take (k+1)=(bY s).take k++[jj (ft s k)]:=ax (yy s h)
theorem tD(h:bd s=true):∀x∈bY s,aU x:=fun x hx=>by have:=(ew (mE h)).2.2 x hx;constructor<;>omega
theorem BM{s:ByteArray}{q:Nat}(h:bd (bl s)=true)(hq:q<s.size):(s[q].toNat:Int)=48\/(s[q].toNat:Int)=49\/(s[q].toNat:Int)=63:=by have:=(gh.1 h).2 _ (zW (nJ hq));rcases this with e|e|e<;>rw[e]<;>simp
theorem Ej(s:ByteArray)(w:World):Calls prog 109 #[.string s] w (Dq (bl s) w):=by
 rcases yS (bd (bl s)) with hb|hb
 ·have hs:s.size=74:=by rw[<-aO];exact (gh.1 hb).1
  have h74:74<=s.size:=by omega
  have h75:s.size<=74:=by omega
  have HW:Bx (vk (bl s)=bY (bl s)/\vd (bl s)=0):=⟨lD hb⟩
  have HB:Bx (bd (bl s)=true):=⟨hb⟩
  have HL:Bx ((bl s).length=74):=⟨by rw[aO];exact hs⟩
  clear hs;obtain⟨i0,hi0,hz0,hz1,hz2⟩:=info_parts Tryz.infoI;have b0:bits BinOp.and IntKind.i64 0 1=0:=by decide
  have b1:bits BinOp.and IntKind.i64 1 1=1:=by decide
  have b15:bits BinOp.and IntKind.i64 15 1=1:=by decide
  go_enter func109,ntmps109
  go_wp2_with fail;refine (dx _ _).mono ?_;rintro r w1 ⟨rfl,rfl⟩;rw[hb];go_wp2_with fail;clear hb;go_loopw [4,5,6,7] (fun v i _ _ wr=>∃k q:Nat,k<=12/\q<=7+5*k/\7+5*k<=q/\i=C D q/\Bx (wr.ownsRow w.heap.size 3 1 v k (((bY (bl s)).take k).map (Value.int .i64)))/\Bx (ab w wr)) (fun _ i _ _ _=>67-(intOf i).toNat)
  case atStart=>exact⟨0,7,by omega,by omega,by omega,rfl,⟨yZ _ _ _ _⟩,⟨zE _⟩⟩
  case round =>
   obtain⟨k,i,hk,hi1,hi2,rfl,HO,HE⟩:=hrel;by_cases hlt:k<12
   ·have hd:decide ((i:Int)<67)=true:=by simp;omega
    have HT:Bx ((bY (bl s)).take (k+1)=(bY (bl s)).take k++[jj (ft (bl s) k)]):=⟨mw _ hlt⟩
    have HCL:Bx ((ft (bl s) k).length=5):=⟨rf HL.out hlt⟩
    have HEX:Bx (bl (s.extract i (i+5))=ft (bl s) k):=⟨by rw[Hs];unfold ft;rw[show i+5-i=5 by omega,show 7+5*k=i by omega]⟩
    go_wp2_with fail;obtain⟨wo,hwo⟩:=nm (wr:World);subst hwo;go_loop [6,7] (fun u j=>∃m n q:Nat,m<=5/\q<=i+m/\i+m<=q/\n<32/\u=C D n/\j=C D q/\Bx (jC (ft (bl s) k) m n)) (fun _ j=>i+5-(intOf j).toNat)
    case atStart=>exact⟨0,0,i,by omega,by omega,by omega,by omega,rfl,rfl,⟨jC.zero _⟩⟩
    case round =>
     obtain⟨m,n,q,hm,hq1,hq2,hn,rfl,rfl,HB5⟩:=hrel;by_cases hm5:m<5
     ·have hq:q<s.size:=by omega
      have hnm:n<16:=by have:=HB5.out.lt;have h4:(2:Nat) ^ m<=2 ^ 4:=Nat.pow_le_pow_right (by omega) (by omega);omega
      have HC:Bx ((ft (bl s) k)[m]?=some s[q]):=⟨FV hm5 (by rw[show 7+5*k+m=q by omega];exact nJ hq)⟩
      rcases BM HB.out hq with a1|a1|a1
      ·have HS:Bx (jC (ft (bl s) k) (m+1) (2*n+0)):=⟨HB5.out.step HC.out (by omega) (fun _=>by omega)⟩
       clear HB5 HC;go_wp2_with fail;go_round
       case rel=>exact⟨m+1,2*n+0,q+1,by omega,by omega,by omega,by omega,by go_num,by go_num,HS⟩
       case measure=>simp[intOf];omega
      ·have HS:Bx (jC (ft (bl s) k) (m+1) (2*n+1)):=⟨HB5.out.step HC.out (by omega) (fun _=>by omega)⟩
       clear HB5 HC;go_wp2_with fail;go_round
       case rel=>exact⟨m+1,2*n+1,q+1,by omega,by omega,by omega,by omega,by go_num,by go_num,HS⟩
       case measure=>simp[intOf];omega
      ·have HS:Bx (jC (ft (bl s) k) (m+1) (2*n+1)):=⟨HB5.out.step HC.out (by omega) (fun hne=>absurd (UInt8.toNat_inj.1 (show s[q].toNat=(63:UInt8).toNat by simp;omega)) hne)⟩
       clear HB5 HC;go_wp2_with fail;go_round
       case rel=>exact⟨m+1,2*n+1,q+1,by omega,by omega,by omega,by omega,by go_num,by go_num,HS⟩
       case measure=>simp[intOf];omega
     ·obtain rfl:m=5:=by omega
      obtain⟨c,hc⟩:∃c,(bl (s.extract i (i+5))).count 63=c:=⟨_,rfl⟩
      have HC63:Bx ((bl (s.extract i (i+5))).count 63=c):=⟨hc⟩
      have HCC:Bx ((ft (bl s) k).count 63=c):=⟨by rw[<-HEX.out];exact hc⟩
      have HSZ:Bx ((s.extract i (i+5)).size<=1000000):=⟨by rw[<-aO,HEX.out,HCL.out];omega⟩
      clear hc;have e5:((i:Int)+5).toNat=i+5:=by omega
      go_wp2_with fail;refine (Lw _ _ c HC63.out HSZ.out).mono ?_;rintro r w2 ⟨rfl,rfl⟩;by_cases hc0:0<c
      ·have HV:Bx (jj (ft (bl s) k)=-1):=⟨Iz (by rw[HCC.out];exact hc0)⟩
       have HT2:Bx (((bY (bl s)).take k).map (Value.int .i64)++[C D (-1)]=((bY (bl s)).take (k+1)).map (Value.int .i64)):=⟨by rw[HT.out,HV.out,yG];rfl⟩
       clear HT HC63 HCC HSZ HEX HCL;go_wp2_with (at_builtin;refine aF _ rfl (.tmp 38) (.tmp 40) 22 rfl w.heap.size 3 i0 _ 8 underlying22 hi0 hz0 hz1 hz2 rfl _ _ _ rfl (HO.out.alloc _) _ _ rfl (ac (heap_alloc_new _ _) rfl) rfl (by omega) (by omega) (by have:=HE.out.size;simp;omega) ?_;intro v' w' hown hg);have HO2:Bx (w'.ownsRow w.heap.size 3 1 v' (k+1) (((bY (bl s)).take (k+1)).map (Value.int .i64))):=⟨by have h2:World.ownsRow _ _ _ _ _ _ (_++[Value.int .i64 (-1)]):=hown;rw[HT2.out]at h2;exact h2⟩
       have HE2:Bx (ab w w'):=⟨ab.grown (HE.out.alloc _) hg (fun q hq=>aq HO.out q hq)⟩
       clear hown hg HO HE HT2;go_wp2_with fail;go_roundw
       case rel=>exact⟨k+1,i+5,by omega,by omega,by omega,by go_num,HO2,HE2⟩
       case measure=>simp[intOf];omega
      ·obtain rfl:c=0:=by omega
       have HV:Bx (jj (ft (bl s) k)=(n:Int)):=⟨Bg HCC.out HB5.out HCL.out⟩
       have HT2:Bx (((bY (bl s)).take k).map (Value.int .i64)++[C D (n:Int)]=((bY (bl s)).take (k+1)).map (Value.int .i64)):=⟨by rw[HT.out,HV.out,yG];rfl⟩
       clear HT HC63 HCC HSZ HEX HCL;go_wp2_with (at_builtin;refine aF _ rfl (.tmp 38) (.tmp 40) 22 rfl w.heap.size 3 i0 _ 8 underlying22 hi0 hz0 hz1 hz2 rfl _ _ _ rfl (HO.out.alloc _) _ _ rfl (ac (heap_alloc_new _ _) rfl) rfl (by omega) (by omega) (by have:=HE.out.size;simp;omega) ?_;intro v' w' hown hg);have HO2:Bx (w'.ownsRow w.heap.size 3 1 v' (k+1) (((bY (bl s)).take (k+1)).map (Value.int .i64))):=⟨by have h2:World.ownsRow _ _ _ _ _ _ (_++[Value.int .i64 (n:Int)]):=hown;rw[HT2.out]at h2;exact h2⟩
       have HE2:Bx (ab w w'):=⟨ab.grown (HE.out.alloc _) hg (fun q hq=>aq HO.out q hq)⟩
       clear hown hg HO HE HT2;go_wp2_with fail;go_roundw
       case rel=>exact⟨k+1,i+5,by omega,by omega,by omega,by go_num,HO2,HE2⟩
       case measure=>simp[intOf];omega
   ·obtain rfl:k=12:=by omega
    have HF:Bx ((bY (bl s)).take 12=bY (bl s)):=⟨bh (dc _)⟩
    rw[HF.out]at HO;obtain⟨A,cc,rfl,-⟩:=jD HO.out;have hI:Bx (ak wr.heap.size wr (E A 12 cc) (bY (bl s))):=⟨qq HO.out (tD HB.out) (by rw[dc];omega)⟩
    clear HO;go_wp2_with fail;go_ret2
    exact⟨_,_,_,_,rfl,HW.out.2.symm,by rw[HW.out.1];exact hI.out,HE.out⟩
 ·have HW:Bx (vk (bl s)=[]/\vd (bl s)=7):=⟨Iq hb⟩
  go_enter func109,ntmps109
  go_wp2_with fail;refine (dx _ _).mono ?_;rintro r w1 ⟨rfl,rfl⟩;rw[hb];go_wp2_with fail;go_ret2
  exact⟨_,_,_,_,rfl,HW.out.2.symm,by rw[HW.out.1];exact ak.nil _ _,zE _⟩
theorem Ie:∀(n:Fin 16) (d:Fin 2),bits BinOp.or IntKind.i64 ((n.val:Int)*2) (d.val:Int)=((2*n.val+d.val:Nat):Int):=by decide +kernel
def CG(l:List UInt8)(k:Nat)(u:Int):List Int:=(bY l).take k++u::List.replicate (11-k) 0
theorem Kx(l:List UInt8)(u:Int)(hk:k<12):(CG l k u)[k]?=some u:=by unfold CG;rw[yL (by rw[yW,dc];omega),yW,dc,show k-min k 12=0 by omega];rfl
theorem wv(l:List UInt8)(u v:Int)(hk:k<12):(CG l k u).set k v=CG l k v:=by unfold CG;rw[vO _ _ (by rw[yW,dc];omega),yW,dc,show k-min k 12=0 by omega];rfl
theorem FH(l:List UInt8)(hk:k<11):CG l k (jj (ft l k))=CG l (k+1) 0:=by unfold CG;rw[mw l (by omega),show 11-k=(11-(k+1))+1 by omega,vD,xY];rfl
theorem Ik(l:List UInt8):CG l 11 (jj (ft l 11))=bY l:=by have h:=mw l (k:=11) (by omega);rw[bh (dc l)]at h;rw[h];rfl
def Kd(l:List UInt8)(k:Nat):List Int:=if k<12 then CG l k 0 else bY l
theorem Bj(l:List UInt8)(hk:k<12):CG l k (jj (ft l k))=Kd l (k+1):=by
 unfold Kd;by_cases h:k+1<12
 ·rw[if_pos h,FH l (by omega)]
 ·rw[if_neg h];obtain rfl:k=11:=by omega
  exact Ik l
theorem Jq(h:c[m]?=some 63):jj c=-1:=by unfold jj;rw[if_pos (zW h)]
structure JN (c:List UInt8) (m n:Nat):Prop where
 b:jC c m n
 no:63 ∉ c.take m
theorem JN.step{c:List UInt8}{m n d:Nat}{x:UInt8}(h:JN c m n)(hx:c[m]?=some x)(hd:d<2)(he:x.toNat=48+d):JN c (m+1) (2*n+d):=by
 refine⟨h.b.step hx hd (fun _=>by omega),?_⟩;rw[ax hx,zM];rintro (e|e)
 ·exact h.no e
 ·simp at e;rw[<-e]at he;simp at he;omega
theorem JN.all(h:JN c 5 n)(hl:c.length=5):jj c=(n:Int):=by have:=h.no;rw[bh hl]at this;exact Bg (List.count_eq_zero.2 this) h.b hl
theorem FY(s:ByteArray)(w:World):Calls prog 106 #[.string s] w (Dq (bl s) w):=by
 rcases yS (bd (bl s)) with hb|hb
 ·have hs:s.size=74:=by rw[<-aO];exact (gh.1 hb).1
  have h74:74<=s.size:=by omega
  have h75:s.size<=74:=by omega
  have HW:Bx (vk (bl s)=bY (bl s)/\vd (bl s)=0):=⟨lD hb⟩
  have HB:Bx (bd (bl s)=true):=⟨hb⟩
  have HL:Bx ((bl s).length=74):=⟨by rw[aO];exact hs⟩
  clear hs;obtain⟨z,hz⟩:=nm (madeCells #[Value.int .i64 0] 12);have hmk:∀w,(Instr.makeSlice 22 (C D 12) (C D 12)).run prog w=.ok (E (some ⟨w.heap.size,0,none⟩) 12 12) (w.alloc (.cells z 3)):=by rw[hz];exact lf 12 (by omega)
  have HO0:Bx ((w.alloc (.cells z 3)).ownsRow w.heap.size 3 1 (E (some ⟨w.heap.size,0,none⟩) 12 12) 12 ((Kd (bl s) 0).map (Value.int .i64))):=⟨by rw[hz,lA];exact uT w _ 12 (zX _) (by unfold maxLen;omega) rfl⟩
  clear hz;go_enter func106,ntmps106
  go_wp2_with fail;refine (fk _ _).mono ?_;rintro r w1 ⟨rfl,rfl⟩;rw[hb];go_wp2_with fail;clear hb;go_loopw [5,6,7,14,17] (fun _ _ _ i _ wr=>∃k:Nat,k<=12/\i=C D k/\Bx (wr.ownsRow w.heap.size 3 1 (E (some ⟨w.heap.size,0,none⟩) 12 12) 12 ((Kd (bl s) k).map (Value.int .i64)))/\Bx (ab w wr)) (fun _ _ _ i _ _=>12-(intOf i).toNat)
  case atStart=>exact⟨0,by omega,rfl,HO0,⟨(zE _).alloc _⟩⟩
  case round =>
   obtain⟨k,hk,rfl,HO,HE⟩:=hrel;clear HO0 hmk;by_cases hlt:k<12
   ·have hd:decide ((k:Int)<12)=true:=by simp;omega
    have HCL:Bx ((ft (bl s) k).length=5):=⟨rf HL.out hlt⟩
    have HO1:Bx (wr.ownsRow w.heap.size 3 1 (E (some ⟨w.heap.size,0,none⟩) 12 12) 12 ((CG (bl s) k ((0:Nat):Int)).map (Value.int .i64))):=⟨by have:=HO.out;unfold Kd at this;rw[if_pos hlt]at this;exact this⟩
    clear HO;go_wp2_with fail;obtain⟨wo,hwo⟩:=nm (wr:World);subst hwo;go_loopw [6,7,17] (fun _ _ i wr=>∃m n:Nat,m<=5/\n<32/\i=C D m/\Bx (JN (ft (bl s) k) m n)/\Bx (wr.ownsRow w.heap.size 3 1 (E (some ⟨w.heap.size,0,none⟩) 12 12) 12 ((CG (bl s) k (n:Int)).map (Value.int .i64)))/\Bx (ab w wr)) (fun _ _ i _=>5-(intOf i).toNat)
    case atStart=>exact⟨0,0,by omega,by omega,rfl,⟨⟨jC.zero _,by simp⟩⟩,HO1,HE⟩
    case round =>
     obtain⟨m,n,hm,hn,rfl,HR,HOm,HEm⟩:=hrel;clear HO1 HE;by_cases hm5:m<5
     ·obtain⟨q,hq0⟩:=nm (7+k*5+m);have hq:q<s.size:=by omega
      have HC:Bx ((ft (bl s) k)[m]?=some s[q]):=⟨FV hm5 (by rw[show 7+5*k+m=q by omega];exact nJ hq)⟩
      have eq1:(7:Int)+(k:Int)*5+(m:Int)=(q:Int):=by omega
      have hnm:n<16:=by have:=HR.out.b.lt;have h4:(2:Nat) ^ m<=2 ^ 4:=Nat.pow_le_pow_right (by omega) (by omega);omega
      clear hq0;have cc:wr.cell? ⟨w.heap.size,k,none⟩=some (C D (n:Int)):=by rw[HOm.out.cellAt k (by omega)];simp[Kx (bl s) _ hlt]
      have cf:=HOm.out.frozenAt k;rcases BM HB.out hq with a1|a1|a1
      ·have HS:Bx (JN (ft (bl s) k) (m+1) (2*n+0)):=⟨HR.out.step HC.out (by omega) (by omega)⟩
       have hor:bits BinOp.or IntKind.i64 ((n:Int)*2) 0=((2*n+0:Nat):Int):=Ie ⟨n,hnm⟩ ⟨0,by omega⟩;obtain⟨n2,hn2⟩:=nm (2*n+0);rw[<-hn2]at hor HS;have h32:n2<32:=by omega
       have HO2:Bx ((wr.setCell ⟨w.heap.size,k,none⟩ (C D (n2:Int))).ownsRow w.heap.size 3 1 (E (some ⟨w.heap.size,0,none⟩) 12 12) 12 ((CG (bl s) k (n2:Int)).map (Value.int .i64))):=⟨by rw[<-wv (bl s) (n:Int) (n2:Int) hlt];exact ug HOm.out⟩
       have HE2:Bx (ab w (wr.setCell ⟨w.heap.size,k,none⟩ (C D (n2:Int)))):=⟨HEm.out.setCell (zX _) _⟩
       clear hn2 HC HR HOm HEm;go_wp2_with fail;go_roundw
       case rel=>exact⟨m+1,n2,by omega,by omega,by go_num,HS,HO2,HE2⟩
       case measure=>simp[intOf];omega
      ·have HS:Bx (JN (ft (bl s) k) (m+1) (2*n+1)):=⟨HR.out.step HC.out (by omega) (by omega)⟩
       have hor:bits BinOp.or IntKind.i64 ((n:Int)*2) 1=((2*n+1:Nat):Int):=Ie ⟨n,hnm⟩ ⟨1,by omega⟩;obtain⟨n2,hn2⟩:=nm (2*n+1);rw[<-hn2]at hor HS;have h32:n2<32:=by omega
       have HO2:Bx ((wr.setCell ⟨w.heap.size,k,none⟩ (C D (n2:Int))).ownsRow w.heap.size 3 1 (E (some ⟨w.heap.size,0,none⟩) 12 12) 12 ((CG (bl s) k (n2:Int)).map (Value.int .i64))):=⟨by rw[<-wv (bl s) (n:Int) (n2:Int) hlt];exact ug HOm.out⟩
       have HE2:Bx (ab w (wr.setCell ⟨w.heap.size,k,none⟩ (C D (n2:Int)))):=⟨HEm.out.setCell (zX _) _⟩
       clear hn2 HC HR HOm HEm;go_wp2_with fail;go_roundw
       case rel=>exact⟨m+1,n2,by omega,by omega,by go_num,HS,HO2,HE2⟩
       case measure=>simp[intOf];omega
      ·have HV:Bx (jj (ft (bl s) k)=-1):=⟨Jq (by rw[HC.out];exact congrArg some (UInt8.toNat_inj.1 (show s[q].toNat=(63:UInt8).toNat by simp;omega)))⟩
       have HO2:Bx ((wr.setCell ⟨w.heap.size,k,none⟩ (C D (-1))).ownsRow w.heap.size 3 1 (E (some ⟨w.heap.size,0,none⟩) 12 12) 12 ((Kd (bl s) (k+1)).map (Value.int .i64))):=⟨by rw[<-Bj (bl s) hlt,HV.out,<-wv (bl s) (n:Int) (-1) hlt];exact ug HOm.out⟩
       have HE2:Bx (ab w (wr.setCell ⟨w.heap.size,k,none⟩ (C D (-1)))):=⟨HEm.out.setCell (zX _) _⟩
       clear HC HR HOm HEm;go_wp2_with fail;go_roundw
       case rel=>exact⟨k+1,by omega,by go_num,HO2,HE2⟩
       case measure=>simp[intOf];omega
     ·obtain rfl:m=5:=by omega
      have HO2:Bx (wr.ownsRow w.heap.size 3 1 (E (some ⟨w.heap.size,0,none⟩) 12 12) 12 ((Kd (bl s) (k+1)).map (Value.int .i64))):=⟨by rw[<-Bj (bl s) hlt,HR.out.all HCL.out];exact HOm.out⟩
      clear HR HOm;go_wp2_with fail;go_roundw
      case rel=>exact⟨k+1,by omega,by go_num,HO2,HEm⟩
      case measure=>simp[intOf];omega
   ·obtain rfl:k=12:=by omega
    have hI:Bx (ak wr.heap.size wr (E (some ⟨w.heap.size,0,none⟩) 12 12) (bY (bl s))):=⟨qq HO.out (tD HB.out) (by rw[dc];omega)⟩
    clear HO;go_wp2_with fail;go_ret2
    exact⟨_,_,_,_,rfl,HW.out.2.symm,by rw[HW.out.1];exact hI.out,HE.out⟩
 ·have HW:Bx (vk (bl s)=[]/\vd (bl s)=7):=⟨Iq hb⟩
  go_enter func106,ntmps106
  go_wp2_with fail;refine (fk _ _).mono ?_;rintro r w1 ⟨rfl,rfl⟩;rw[hb];go_wp2_with fail;go_ret2
  exact⟨_,_,_,_,rfl,HW.out.2.symm,by rw[HW.out.1];exact ak.nil _ _,zE _⟩
def Fy(l:List Int)(d:List F)(er k:Int):Prop :=
 (cD (-1) l=false->d=[]/\er=0/\k=2)/\(cD (-1) l=true->(∃(cw:List F) (n:Nat),pn l cw n/\d=cw.take (l.length-6)/\er=n/\k=0)\/((∀cw n,¬pn l cw n)/\d=[]/\er=0/\k=25))
theorem Gx{d d':List F}{er er' k k':Int}(h:Fy l d er k)(h':Fy l d' er' k'):d=d'/\er=er'/\k=k':=by
 rcases yS (cD (-1) l) with hb|hb
 ·have h15:=(ew hb).2.1;rcases h.2 hb with ⟨c,n,h1,h2,h3,h4⟩|⟨h1,h2,h3,h4⟩<;>rcases h'.2 hb with ⟨c',n',g1,g2,g3,g4⟩|⟨g1,g2,g3,g4⟩
  ·obtain⟨rfl,rfl⟩:=Ez (by omega) h1 g1;exact⟨by rw[h2,g2],by rw[h3,g3],by rw[h4,g4]⟩
  ·exact absurd h1 (g1 _ _)
  ·exact absurd g1 (h1 _ _)
  ·exact⟨by rw[h2,g2],by rw[h3,g3],by rw[h4,g4]⟩
 ·obtain⟨h2,h3,h4⟩:=h.1 hb;obtain⟨g2,g3,g4⟩:=h'.1 hb;exact⟨by rw[h2,g2],by rw[h3,g3],by rw[h4,g4]⟩
def dz(d:List F)(i:Nat):Int:=((d.getD i 0).n:Int)
theorem fT(d:List F)(i:Nat):0<=dz d i/\dz d i<32:=by have:=(d.getD i 0).lt;unfold dz;omega
def fK(d:List F):Int:=1024*dz d 1+32*dz d 2+dz d 3
def iZ(s:List UInt8)(p c g v n k:Int):Prop :=
 (iM s≠0->p=0/\c=0/\g=0/\v=0/\n=0/\k=iM s) /\
 (iM s=0->∃d er kk,Fy (bY (jm s)) d er kk/\(kk≠0->p=0/\c=0/\g=0/\v=0/\n=0/\k=25) /\
  (kk=0->(9999<fK d->p=0/\c=0/\g=0/\v=0/\n=0/\k=2)/\(fK d<=9999->p=dz d 0/\c=fK d/\g=dz d 4/\v=dz d 5/\n=er/\k=0)))
theorem tm{c n k p' c' g' v' n' k':Int}(h:iZ s p c g v n k)(h':iZ s p' c' g' v' n' k'):p=p'/\c=c'/\g=g'/\v=v'/\n=n'/\k=k':=by
 by_cases hu:iM s=0
 ·obtain⟨d,er,kk,h1,h2,h3⟩:=h.2 hu;obtain⟨d',er',kk',h1',h2',h3'⟩:=h'.2 hu;obtain⟨rfl,rfl,rfl⟩:=Gx h1 h1';by_cases hk:kk=0
  ·by_cases hc:fK d<=9999
   ·have:=(h3 hk).2 hc;have:=(h3' hk).2 hc;omega
   ·have:=(h3 hk).1 (by omega);have:=(h3' hk).1 (by omega);omega
  ·have:=h2 hk;have:=h2' hk;omega
 ·have:=h.1 hu;have:=h'.1 hu;omega
def DD(s:List UInt8)(w:World)(e:Ending)(w':World):Prop :=
 ∃p c g v n k,e=.returned (.tuple #[.agg #[C D p,C D c,C D g,C D v],C D n,C D k])/\iZ s p c g v n k/\aU p/\aU c/\aU g/\aU v/\aU n/\aU k/\ab w w'
theorem JT{d:List F}{er k:Int}(hw:cD (-1) l=true)(h:Fy l d er k):(k=0/\d.length=l.length-6/\0<=er/\er<=6)\/(k=25/\d=[]/\er=0):=by
 rcases h.2 hw with ⟨cw,n,h1,h2,h3,h4⟩|⟨h1,h2,h3,h4⟩
 ·have hn:n<=6:=by have:=h1.near;omega
  exact .inl ⟨h4,by rw[h2,yW,h1.len];omega,by omega,by omega⟩
 ·exact .inr ⟨h4,h2,h3⟩
theorem Ib{p:Nat}{A:Option Addr}{c:Nat}{d:List F}(h:ak p w (E A n c) (wI d))(hn:d.length=6):∃b off,A=some ⟨b,off,none⟩/\n=6/\∀k,k<6->w.cell? ⟨b,off+k,none⟩=some (C D (dz d k)):=by
 have h6:n=6:=by have:=h.len;rw[aT]at this;omega
 obtain⟨b,off,rfl,_⟩:=qy h (k:=0) (by omega);refine⟨b,off,rfl,h6,fun k hk=>?_⟩;obtain⟨b',off',h1,h2⟩:=qy h (k:=k) (by omega);injection h1 with h1;injection h1 with hb ho;subst hb;subst ho;exact h2
theorem Gl(s:ByteArray)(w:World)(hT:cK w):Calls prog 68 #[.string s] w (DD (bl s) w):=by
 have HT:Bx (cK w):=⟨hT⟩
 clear hT;have HE0:Bx (ab w (w.alloc (.cells #[C D 0,C D 0,C D 0,C D 0] 45))):=⟨(zE _).alloc _⟩
 go_enter func68,ntmps68
 go_wp2_with fail;refine (BX s _).mono ?_;rintro e w1 ⟨t,k,rfl,hk,ht,hx1⟩;have hbk:=hx1.blk (heap_alloc_new w _);have HX:Bx (ab w w1):=⟨HE0.out.trans hx1⟩
 have HBT:Bx (bl t=jm (bl s)):=⟨ht⟩
 have HK:Bx (k=iM (bl s)):=⟨hk⟩
 have HBK:Bx (w1.heap[w.heap.size]?=some (.cells #[C D 0,C D 0,C D 0,C D 0] 45 (0,0))):=⟨hbk⟩
 clear hx1 ht hk hbk HE0;by_cases hu:k=0
 ·subst hu;have HST:Bx (bd (bl t)=true):=⟨by rw[HBT.out];exact tA HK.out.symm⟩
  go_wp2_with fail;refine (FY t _).mono ?_;rintro e w2 ⟨A2,n2,c2,k2,rfl,hk2,hi2,hx2⟩;rw[(lD HST.out).2]at hk2;rw[(lD HST.out).1,HBT.out]at hi2;subst hk2;have HI:Bx (ak w2.heap.size w2 (E A2 n2 c2) (bY (jm (bl s)))):=⟨hi2⟩
  replace HX:Bx (ab w w2):=⟨HX.out.trans hx2⟩
  replace HBK:Bx (w2.heap[w.heap.size]?=some (.cells #[C D 0,C D 0,C D 0,C D 0] 45 (0,0))):=⟨hx2.blk HBK.out⟩
  clear hi2 hx2;go_wp2_with fail;refine (K8 _ _ _ (HT.out.ext HX.out) HI.out).mono ?_;rintro e w3 ⟨A3,n3,c3,d,er,kk,rfl,hi3,hx3,f3,t3⟩;have HDF:Bx (Fy (bY (jm (bl s))) d er kk):=⟨⟨f3,t3⟩⟩
  have HI3:Bx (ak w3.heap.size w3 (E A3 n3 c3) (wI d)):=⟨hi3⟩
  replace HX:Bx (ab w w3):=⟨HX.out.trans hx3⟩
  replace HBK:Bx (w3.heap[w.heap.size]?=some (.cells #[C D 0,C D 0,C D 0,C D 0] 45 (0,0))):=⟨hx3.blk HBK.out⟩
  have HWW:Bx (cD (-1) (bY (jm (bl s)))=true):=⟨mE (by rw[<-HBT.out];exact HST.out)⟩
  clear hi3 hx3 f3 t3 HI;have z0:=ac HBK.out (i:=0) rfl;have z1:=ac HBK.out (i:=1) rfl;have z2:=ac HBK.out (i:=2) rfl;have z3:=ac HBK.out (i:=3) rfl;have f0:=ae HBK.out 0;have f1:=ae HBK.out 1;have f2:=ae HBK.out 2;have f3:=ae HBK.out 3;rcases JT HWW.out HDF.out with ⟨rfl,hl,her0,her6⟩|⟨rfl,hd,he⟩
  ·rw[dc]at hl;obtain⟨b,off,rfl,rfl,hcd⟩:=Ib HI3.out hl;have c0:=hcd 0 (by omega);have c1:=hcd 1 (by omega);have c2:=hcd 2 (by omega);have c3:=hcd 3 (by omega);have c4:=hcd 4 (by omega);have c5:=hcd 5 (by omega);rw[yQ]at c0;clear hcd hl;obtain⟨d0l,d0h⟩:=fT d 0;obtain⟨d1l,d1h⟩:=fT d 1;obtain⟨d2l,d2h⟩:=fT d 2;obtain⟨d3l,d3h⟩:=fT d 3;obtain⟨d4l,d4h⟩:=fT d 4;obtain⟨d5l,d5h⟩:=fT d 5;have HCZ:Bx ((dz d 1*32+dz d 2)*32+dz d 3=fK d):=⟨by unfold fK;omega⟩
   have HRF:Bx (∀p c g v n k,(9999<fK d->p=0/\c=0/\g=0/\v=0/\n=0/\k=2)->(fK d<=9999->p=dz d 0/\c=fK d/\g=dz d 4/\v=dz d 5/\n=er/\k=0)->iZ (bl s) p c g v n k):=⟨fun p c g v n k g1 g2=>⟨fun h=>absurd HK.out.symm h,fun _=>⟨d,er,0,HDF.out,fun h=>absurd rfl h,fun _=>⟨g1,g2⟩⟩⟩⟩
   generalize dz d 0=x0 at *
   generalize dz d 1=x1 at *
   generalize dz d 2=x2 at *
   generalize dz d 3=x3 at *
   generalize dz d 4=x4 at *
   generalize dz d 5=x5 at *
   generalize fK d=cz at *
   have e1:IntKind.i64.wrap (x1*32)=x1*32:=yN _ (by omega);have e2:IntKind.i64.wrap (x1*32+x2)=x1*32+x2:=yN _ (by omega);have e3:IntKind.i64.wrap ((x1*32+x2)*32)=(x1*32+x2)*32:=yN _ (by omega);have e4:IntKind.i64.wrap ((x1*32+x2)*32+x3)=cz:=by rw[yN _ (by omega)];exact HCZ.out
   have hz1:cz<=32767:=by have:=HCZ.out;omega
   have hz0:0<=cz:=by have:=HCZ.out;omega
   clear HT HI3 HDF HWW HBT HK HST;go_wp2_with fail;go_quiet (fail)
   clear e1 e2 e3 e4;replace HBK:Bx ((w3.drewN nq).heap[w.heap.size]?=some (.cells #[C D 0,C D 0,C D 0,C D 0] 45 (0,0))):=HBK;replace HX:Bx (ab w (w3.drewN nq)):=⟨HX.out.drewN _⟩
   replace c0:(w3.drewN nq).cell? ⟨b,off,none⟩=_:=c0;replace c4:(w3.drewN nq).cell? ⟨b,off+4,none⟩=_:=c4;replace c5:(w3.drewN nq).cell? ⟨b,off+5,none⟩=_:=c5;replace z0:(w3.drewN nq).cell? ⟨w.heap.size,0,none⟩=_:=z0;replace z1:(w3.drewN nq).cell? ⟨w.heap.size,1,none⟩=_:=z1;replace z2:(w3.drewN nq).cell? ⟨w.heap.size,2,none⟩=_:=z2;replace z3:(w3.drewN nq).cell? ⟨w.heap.size,3,none⟩=_:=z3;replace f0:(w3.drewN nq).frozen? ⟨w.heap.size,0,none⟩=_:=f0;replace f1:(w3.drewN nq).frozen? ⟨w.heap.size,1,none⟩=_:=f1;replace f2:(w3.drewN nq).frozen? ⟨w.heap.size,2,none⟩=_:=f2;replace f3:(w3.drewN nq).frozen? ⟨w.heap.size,3,none⟩=_:=f3;clear c1 c2 c3;generalize w3.drewN nq=w4 at *
   clear HCZ;by_cases hcz:9999<cz
   ·go_wp2_with fail;refine bodyPost_ret (v:=.tuple #[.agg #[C D 0,C D 0,C D 0,C D 0],C D 0,C D 2]) (by simp[results,results68,go_sem,z0,z1,z2,z3]) rfl ⟨0,0,0,0,0,2,rfl,HRF.out _ _ _ _ _ _ (fun _=>⟨rfl,rfl,rfl,rfl,rfl,rfl⟩) (fun h=>by omega),by decide,by decide,by decide,by decide,by decide,by decide,?_⟩;exact (((HX.out.setCell (zX _) _).setCell (zX _) _).setCell (zX _) _).setCell (zX _) _
   ·go_wp2_with fail;go_region
    go_wp2_with fail;refine bodyPost_ret (v:=.tuple #[.agg #[C D x0,C D cz,C D x4,C D x5],C D er,C D 0]) (by simp[results,results68,go_sem,z0,z1,z2,z3]) rfl ⟨x0,cz,x4,x5,er,0,rfl,HRF.out _ _ _ _ _ _ (fun h=>by omega) (fun _=>⟨rfl,rfl,rfl,rfl,rfl,rfl⟩),⟨by omega,by omega⟩,⟨by omega,by omega⟩,⟨by omega,by omega⟩,⟨by omega,by omega⟩,⟨by omega,by omega⟩,by decide,?_⟩;exact ab.drew ((((HX.out.setCell (zX _) _).setCell (zX _) _).setCell (zX _) _).setCell (zX _) _)
  ·subst hd;subst he;have HRF:Bx (iZ (bl s) 0 0 0 0 0 25):=⟨⟨fun h=>absurd HK.out.symm h,fun _=>⟨[],0,25,HDF.out,fun _=>⟨rfl,rfl,rfl,rfl,rfl,rfl⟩,fun h=>by omega⟩⟩⟩
   clear HT HI3 HDF HWW HBT HK HST;go_wp2_with fail;refine bodyPost_ret (v:=.tuple #[.agg #[C D 0,C D 0,C D 0,C D 0],C D 0,C D 25]) (by simp[results,results68,go_sem,z0,z1,z2,z3]) rfl ⟨0,0,0,0,0,25,rfl,HRF.out,by decide,by decide,by decide,by decide,by decide,by decide,?_⟩;exact (((HX.out.setCell (zX _) _).setCell (zX _) _).setCell (zX _) _).setCell (zX _) _
 ·have e1:(k != 0)=true:=bne_iff_ne.2 hu;have HRF:Bx (iZ (bl s) 0 0 0 0 0 k):=⟨⟨fun _=>⟨rfl,rfl,rfl,rfl,rfl,HK.out⟩,fun h=>absurd (HK.out.trans h) hu⟩⟩
  have hk:aU k:=by have:=HK.out;unfold iM at this;constructor<;>(split at this<;>(try split at this)<;>(try split at this)<;>omega)
  have HKI:Bx (aU k):=⟨hk⟩
  have z0:=ac HBK.out (i:=0) rfl;have z1:=ac HBK.out (i:=1) rfl;have z2:=ac HBK.out (i:=2) rfl;have z3:=ac HBK.out (i:=3) rfl;have f0:=ae HBK.out 0;have f1:=ae HBK.out 1;have f2:=ae HBK.out 2;have f3:=ae HBK.out 3;clear HT HBT HK hk;go_wp2_with fail;refine bodyPost_ret (v:=.tuple #[.agg #[C D 0,C D 0,C D 0,C D 0],C D 0,C D k]) (by simp[results,results68,go_sem,z0,z1,z2,z3]) rfl ⟨0,0,0,0,0,k,rfl,HRF.out,by decide,by decide,by decide,by decide,by decide,HKI.out,?_⟩;exact (((HX.out.setCell (zX _) _).setCell (zX _) _).setCell (zX _) _).setCell (zX _) _
def fE(x:Int):Bool:=decide (0<=x/\x<=9)
theorem Ak{p:Int->Bool}(h:l[k]?=some x):(l.take (k+1)).all p=((l.take k).all p&&p x):=by rw[ax h];simp
theorem Eq{p:Int->Bool}(h:l[k]?=some x)(hp:p x=false):l.all p=false:=by rw[wT];exact⟨x,zW h,by simp[hp]⟩
theorem F2(v:Value)(l:List Int)(w:World){p:Nat}(h:ak p w v l) :
  Calls prog 84 #[v] w fun e w'=>e=.returned (.bool (l.all fE))/\w=w':=by
 obtain⟨A,n,c,rfl,hnc,hc,hnn,HL⟩:=h.open_;have H:=zZ h;clear h;go_enter func84,ntmps84
 go_wp2
 go_loop [3] (fun i=>∃k:Nat,k<=n/\i=C D k/\Hid ((l.take k).all fE=true)) (fun i=>n-(intOf i).toNat)
 case atStart=>exact⟨0,xL _,rfl,by simp[Hid]⟩
 case round =>
  obtain⟨k,hk,rfl,HK⟩:=hrel;by_cases hlt:k<n
  ·obtain⟨b,off,x,rfl,hcx,HX,hx1,hx2⟩:=H.out.at_ hlt;go_wp2
   all_goals first
    |(go_ret;exact⟨aa (Eq HX.out (by simp[fE];omega)).symm,rfl⟩)
    |(go_round
      case rel=>exact⟨k+1,by omega,by go_num,by show (l.take (k+1)).all fE=true;rw[Ak HX.out,HK.out];simp[fE];omega⟩
      case measure=>simp[intOf];omega)
  ·go_wp2
   go_ret
   refine⟨aa ?_,rfl⟩;have:=HK.out;rw[bh (by have:=HL.out;omega)]at this;rw[this]
def Cl(p:Int->Bool)(l:List Int):Int:=if l.any p then (l.findIdx p:Int) else -1
theorem Im{p:Int->Bool}{x:Int}(h:l[k]?=some x)(hp:p x=true)(hn:(l.take k).all (fun x=>!p x)=true):(k:Int)=Cl p l:=by
 obtain⟨hk,rfl⟩:=zY.1 h;have:l.any p=true:=wZ.2 ⟨_,xC hk,hp⟩;rw[Cl,if_pos this];congr 1
 symm
 rw[List.findIdx_eq hk];refine⟨hp,fun j hj=>?_⟩;have:=xS.1 hn l[j] (by rw[List.mem_take_iff_getElem];exact⟨j,by omega,rfl⟩);simpa using this
theorem E5{p:Int->Bool}(hn:l.all (fun x=>!p x)=true):-1=Cl p l:=by rw[Cl,if_neg];rw[wZ];rintro⟨x,hx,hp⟩;have:=xS.1 hn x hx;simp[hp]at this
theorem Hc(p:Int->Bool)(l:List Int):decide (0<=Cl p l)=l.any p:=by unfold Cl;split<;>simp_all
theorem IG(p:Int->Bool)(l:List Int):(!l.any (fun x=>!p x))=l.all p:=by induction l<;>simp_all
end Go.Proofs.YtkaajgoeahahpaaGreatDoor

