import Derived.Test.YtkaajgoeahahpaaGreatDoorK13
set_option linter.all false
set_option maxRecDepth 100000
set_option maxHeartbeats 0
namespace Go.Proofs.YtkaajgoeahahpaaGreatDoor
open Go.Value renaming int→C,slice→E
open Go.IntKind renaming i64→D
open Go.RowKit _root_.Go.Proofs.Tryz
variable {l:List Int} {j k n:Nat} {c g p v:Int} {w w':World}
theorem nH{a c:List F}{ps:List Nat}:F.Off (xl 0 a ps) c ps↔F.Off a c ps:=by unfold F.Off;rw[uj];refine and_congr Iff.rfl (forall_congr' fun i=>imp_congr_right fun hi=>?_);rw[vt,if_neg (fun h=>hi h.2)]
def K4(w:World)(l:List Int)(e:Ending)(w':World):Prop :=
 ∃(A:Option Addr) (m c:Nat) (d:List F) (er k:Int),e=.returned (.tuple #[E A m c,C D er,C D k])/\ak w'.heap.size w' (E A m c) (wI d)/\ab w w' /\
  (cD (-1) l=false->d=[]/\er=0/\k=2) /\
  (cD (-1) l=true->(∃(cw:List F) (n:Nat),pn l cw n/\d=cw.take (l.length-6)/\er=n/\k=0)\/((∀cw n,¬pn l cw n)/\d=[]/\er=0/\k=25))
theorem K8{q:Nat}(v:Value)(l:List Int)(w:World)(hT:cK w)(hI:ak q w v l):Calls prog 107 #[v] w (K4 w l) :=
 (Ck v l w hT hI).mono fun e w' ⟨A,m,c,d,er,k,he,hi,hx,h⟩=>⟨A,m,c,d,er,k,he,hi.re (zX _),hx,h⟩
def nj(l:List Int)(n k:Nat):List F:=(bv l).take k++List.replicate (n+6-k) 0
theorem zg(hl:l.length=n)(hk:k<=n):(nj l n k).length=n+6:=by unfold nj;rw[yU,yW,bt,uD];omega
theorem F7{x:Int}{y:F}(hl:l.length=n)(hx:l[k]?=some x)(hy:(y.n:Int)=x):(nj l n k).set k y=nj l n (k+1):=by
 have hk:=(zY.1 hx).1;unfold nj;have e1:((bv l).take k).length=k:=by rw[yW,bt];omega
 rw[vO _ _ (by omega),e1,vH,show n+6-k=(n+6-(k+1))+1 by omega,vD,vA];have e2:(bv l)[k]?=some y:=by
  rw[Cq hx];have:x.toNat%32=y.n:=by have:=y.lt;omega
  congr 1
  exact F.ext this
 rw[ax e2,xY];rfl
theorem FP(hl:l.length=n):F.Off (xl 0 (bv (wI (nj l n n))) ((List.range 6).map fun i=>n+i)) (pQ (bv l)) ((List.range 6).map fun i=>n+i):=by
 rw[nH,tP];have e0:(bv l).take n=bv l:=xV (by rw[bt];omega);refine⟨by rw[BR,bt,zg hl (zX _),hl],fun i hi=>?_⟩;unfold nj pQ;rw[e0];rcases zU i n with h|h
 ·rw[yY (by rw[bt];omega),yY (by rw[bt];omega)]
 ·have:n+6<=i:=by
   rcases zU i (n+6) with h2|h2
   ·exact absurd (zF.2 ⟨i-n,yX.2 (by omega),by omega⟩) hi
   ·exact h2
  rw[zC (by rw[yU,bt,(F.enc_code _).2];omega),zC (by rw[yU,bt,uD];omega)]
theorem Cc{q:Nat}(v:Value)(l:List Int)(w:World)(hI:ak q w v l) :
  Calls prog 102 #[v] w fun e w'=>∃A m c,e=.returned (.tuple #[E A m c,C D (mZ l)])/\m=(jI l).length/\m<=c/\c<=9223372036854775807/\w'.ownsRow w.heap.size 3 1 (E A m c) m ((jI l).map (Value.int .i64))/\ab w w':=by
 have h0:=hI.re (q:=w.heap.size) (zX _);obtain⟨A,n,c,rfl,hnc,hc,hnn,HL⟩:=hI.open_;have HI:=zZ h0;clear hI h0;have hbad:∀w',eV l=false->ab w w'->∃A m c,Ending.returned (.tuple #[E none 0 0,C D 2])=.returned (.tuple #[E A m c,C D (mZ l)])/\m=(jI l).length/\m<=c/\c<=9223372036854775807/\w'.ownsRow w.heap.size 3 1 (E A m c) m ((jI l).map (Value.int .i64))/\ab w w':=fun w' hd hx=>by
  refine⟨none,0,0,?_,?_,by omega,by omega,?_,hx⟩
  ·unfold mZ;rw[hd];rfl
  ·unfold jI;rw[hd];rfl
  ·unfold jI;rw[hd];exact yZ _ _ _ _
 have HBAD:=zZ hbad;clear hbad;by_cases h1:n<1
 ·go_enter func102,ntmps102
  go_wp2_with fail;go_ret2
  exact HBAD.out _ (by
   rcases yS (eV l) with h|h
   ·have:=nE h;have:=HL.out;omega
   ·exact h) (zE _)
 by_cases h9:9<n
 ·go_enter func102,ntmps102
  go_wp2_with fail;go_ret2
  exact HBAD.out _ (by
   rcases yS (eV l) with h|h
   ·have:=nE h;have:=HL.out;omega
   ·exact h) (zE _)
 have hmkI:=lf (n+6) (by omega);rw[show (((n+6:Nat)):Int)=(n:Int)+6 by omega]at hmkI;obtain⟨i0,hi0,hz0,hz1,hz2⟩:=info_parts Tryz.infoI;obtain⟨b,o,z,rfl,-⟩:=HI.out.at_ (k:=0) (by omega);have HG0:Hid (eT w.heap.size (w.alloc (.cells (madeCells #[C D 0] (n+6)) 3)) (E (some ⟨w.heap.size,0,none⟩) (n+6) (n+6)) (nj l n 0)):=by
  have h:=heap_alloc_new w (.cells (madeCells #[C D 0] (n+6)) 3);rw[lA]at h⊢;have hz:nj l n 0=List.replicate (n+6) 0:=by simp[nj]
  rw[hz];exact mU h (by rw[uD]) (zX _) (by omega)
 have HE0:=zZ ((zE w).alloc (.cells (madeCells #[C D 0] (n+6)) 3));go_enter func102,ntmps102
 go_wp2_with fail;go_loopw [6] (fun s6 wr=>∃(k:Nat),s6=C D (k:Int)/\k<=n/\Hid ((∀i x,i<k->l[i]?=some x->0<=x/\x<32)/\eT w.heap.size wr (E (some ⟨w.heap.size,0,none⟩) (n+6) (n+6)) (nj l n k)/\ab w wr)) (fun i _=>n-(intOf i).toNat)
 case atStart=>exact⟨0,rfl,by omega,fun i x h=>by omega,HG0.out,HE0.out⟩
 case round =>
  clear HG0 HE0 hmkI;obtain⟨k,rfl,hk,HK⟩:=hrel;have HV:=zZ HK.out.1;have HO:=zZ HK.out.2.1;have HE:=zZ HK.out.2.2;clear HK;have HZL:=zZ (zg (k:=k) HL.out hk);by_cases hkn:k<n
  ·obtain⟨x,cx,hx,hx1,hx2⟩:=(HI.out.ext HE.out).cell_ hkn;rcases yS (iU x) with hel|hel
   ·have hxb:0<=x/\x<32:=by unfold iU at hel;simp at hel;omega
    obtain⟨y,hy⟩:∃y:F,(y.n:Int)=x:=⟨F.mk x.toNat (by omega),by rw[F.n_mk];omega⟩
    subst hy;obtain⟨z0,hz0'⟩:∃z0,(nj l n k)[k]?=some z0:=⟨_,zV (by rw[HZL.out];omega)⟩
    have cy:=HO.out.cell HZL.out hz0';have cf:=HO.out.froz HZL.out k;have HP:=zZ (HO.out.put HZL.out k y);rw[F7 HL.out hx.out rfl]at HP;have HE2:=zZ (HE.out.setCell (p:=⟨w.heap.size,k,none⟩) (zX _) (C D (y.n:Int)));go_wp2_with (go_at_call 142;refine (dM (y.n:Int) _ (by omega) (by omega)).mono ?_;rintro e w1 ⟨rfl,rfl⟩;rw[hel]);go_roundw
    case rel=>exact⟨k+1,by go_num,by omega,fun i x' h1 h2=>(by
     by_cases e:i=k
     ·subst e;rw[hx.out]at h2;injection h2 with h2;omega
     ·exact HV.out i x' (by omega) h2),HP.out,HE2.out⟩
    case measure=>simp[intOf];omega
   ·go_wp2_with (go_at_call 142;refine (dM x _ (by omega) (by omega)).mono ?_;rintro e w1 ⟨rfl,rfl⟩;rw[hel]);go_ret2
    refine HBAD.out _ ?_ HE.out;rcases yS (eV l) with h|h
    ·have:=(nE h).2.2 x (zW hx.out);unfold iU at hel;simp at hel;omega
    ·exact h
  ·obtain rfl:k=n:=by omega
   have HDB:Hid (eV l=true):=BO (by have:=HL.out;omega) (by have:=HL.out;omega) fun x hx=>by obtain⟨i,hi,rfl⟩:=List.getElem_of_mem hx;exact HV.out i _ (by rw[<-HL.out];exact hi) (zV hi)
   obtain⟨W1,hW1⟩:=nm (wr:World);subst hW1;clear HBAD HV;go_wp2_with fail;go_loopw [5,7] (fun s5 s7 wr=>∃(j:Nat),s7=C D (j:Int)/\j<=6/\Hid (wr.ownsRow W1.heap.size 3 1 s5 j ((fW ((List.range j).map fun i=>k+i)).map (Value.int .i64))/\ab W1 wr)) (fun _ i _=>6-(intOf i).toNat)
   case atStart=>exact⟨0,rfl,by omega,yZ _ _ _ _,zE _⟩
   case round =>
    obtain⟨j,rfl,hj,HK⟩:=hrel;have HO5:=zZ HK.out.1;have HE5:=zZ HK.out.2;clear HK;by_cases hj6:j<6
    ·go_wp2_with (at_builtin;refine aF _ rfl (.tmp 45) (.tmp 50) 22 rfl W1.heap.size 3 i0 _ 8 underlying22 hi0 hz0 hz1 hz2 rfl u5 j _ rfl (HO5.out.alloc _) _ _ rfl (by simp;rfl) rfl (by omega) (by omega) (by have:=HE5.out.size;simp;omega) ?_;intro v4 w4 hown4 hg4;have HE4:=zZ (ab.grown (HE5.out.alloc _) hg4 (aq HO5.out));have HO4:=zZ hown4;clear hown4 hg4);go_roundw
     case rel =>
      refine⟨j+1,by go_num,by omega,?_,HE4.out⟩;have e:fW ((List.range (j+1)).map fun i=>k+i)=fW ((List.range j).map fun i=>k+i)++[(k:Int)+(j:Int)]:=by rw[xP,yG];unfold fW;rw[yG];simp
      rw[e,yG];exact HO4.out
     case measure=>simp[intOf];omega
    ·obtain rfl:j=6:=by omega
     have HOW:=zZ (HO.out.ext HE5.out);have HWI:Hid (ak wr.heap.size wr (E (some ⟨w.heap.size,0,none⟩) (k+6) (k+6)) (wI (nj l k k))):=ak.of_own' (p:=wr.heap.size) (e:=3) HOW.out (fun h=>by have:=(HOW.out.lt _ h).2;omega) (jQ _) (by rw[aT,HZL.out];omega);have HPI:Hid (ak wr.heap.size wr u5 (fW ((List.range 6).map fun i=>k+i))):=ak.of_own' (p:=wr.heap.size) (e:=3) HO5.out (fun h=>by have:=(HO5.out.lt _ h).2;omega) (na fun p hp=>by obtain⟨i,hi,rfl⟩:=zF.1 hp;have:=yX.1 hi;omega) (by rw[fd];simp)
     have HF:=zZ (pa (E (some ⟨w.heap.size,0,none⟩) (k+6) (k+6)) u5 (wI (nj l k k)) ((List.range 6).map fun i=>k+i) wr HWI.out HPI.out (by rw[aT,HZL.out];omega) (by rw[aT,HZL.out];omega)
      (List.Pairwise.map _ (fun a b h=>(by omega)) List.nodup_range)
      (fun p hp=>by
       obtain⟨i,hi,rfl⟩:=zF.1 hp;have:=yX.1 hi;rw[aT,HZL.out];omega) (by simp) (fun i x _ hx=>by
       unfold wI at hx;rw[zP,yO]at hx;obtain⟨f,_,rfl⟩:=hx;have:=f.lt;omega))
     have hs5:w.heap.size<=wr.heap.size:=yR HE.out.size HE5.out.size;go_wp2_with (go_at_call 143;refine HF.out.mono ?_;rintro e w1 ⟨g,cp1,cw,rfl,hg1,hg2,hcl,hown,hx1,hoff,huq⟩);go_ret2
     have hcw:pQ (bv l)=cw:=huq _ (FP HL.out) (sO _);have e1:jI l=wI cw:=by unfold jI;rw[if_pos HDB.out,hcw]
     have e2:mZ l=0:=by unfold mZ;rw[if_pos HDB.out]
     rw[e1,e2];refine⟨some ⟨g,0,none⟩,_,cp1,rfl,by rw[aT,aT,hcl,aT],hg1,hg2,?_,(HE.out.trans HE5.out).trans hx1⟩;have:=gM hown hs5;unfold eT at hown;rw[hcl]at hown;exact gM hown hs5
theorem Jw:∀(n:Fin 32) (j:Fin 5),bits BinOp.and IntKind.i64 ((n.val:Int)/2 ^ j.val) 1=((n.val/2 ^ j.val%2:Nat):Int):=by decide +kernel
theorem Eb(hn:n<32)(hj:j<5):bits BinOp.and IntKind.i64 ((n:Int)/2 ^ j) 1=((n/2 ^ j%2:Nat):Int):=Jw ⟨n,hn⟩ ⟨j,hj⟩
theorem Ia:∀(n:Fin 32) (j:Fin 5),(fR n.val).take (5-j.val)=(fR n.val).take (5-(j.val+1))++[nT n.val j.val]:=by decide +kernel
theorem El(hn:n<32)(hj:j<5):(fR n).take (5-j)=(fR n).take (5-(j+1))++[nT n j]:=Ia ⟨n,hn⟩ ⟨j,hj⟩
theorem BE(x:F)(w:World) :
  Calls prog 103 #[C D (x.n:Int)] w fun e w'=>∃t,e=.returned (.string t)/\bl t=fR x.n/\w=w':=by
 have hx:=x.lt;obtain⟨n,hn⟩:=nm x.n;rw[<-hn]at hx⊢;clear hn x;go_enter func103,ntmps103
 go_wp2_with fail;go_loop [3,4] (fun v i=>∃(k:Nat) (s:ByteArray),k<=5/\i=C D ((k:Int)-1)/\v=.string s/\Hid (bl s=(fR n).take (5-k))/\s.size<=5) (fun _ i=>((intOf i)+1).toNat)
 case atStart=>exact⟨5,_,by omega,rfl,rfl,rfl,by decide⟩
 case round =>
  obtain⟨k,s,hk,rfl,rfl,HS,hs⟩:=hrel;by_cases h0:0<k
  ·obtain⟨j,rfl⟩:∃j,k=j+1:=⟨k-1,by omega⟩
   have e1:(((j+1:Nat):Int)-1)=(j:Int):=by omega
   rw[e1];clear e1;have hj:j<64:=by omega
   have HA:=zZ (Eb hx (show j<5 by omega));have HM:=zZ (El hx (show j<5 by omega));rcases Nat.mod_two_eq_zero_or_one (n/2 ^ j) with hb|hb
   ·have e1:(bits BinOp.and IntKind.i64 ((n:Int)/2 ^ j) 1==1)=false:=by rw[HA.out,hb];rfl
    have HN:Hid (bl (s++⟨#[48]⟩)=(fR n).take (5-j)):=by
     show _=_
     rw[pj,HS.out,HM.out];unfold nT;rw[if_neg (by omega)];rfl
    have hz:s.size<=4:=by rw[<-aO,HS.out,yW];omega
    clear hb HA HM;go_wp2_with fail;go_round
    case rel=>exact⟨j,_,by omega,rfl,rfl,HN.out,by rw[ByteArray.size_append,show (ByteArray.mk #[48]).size=1 from rfl];omega⟩
    case measure=>simp[intOf]
   ·have e1:(bits BinOp.and IntKind.i64 ((n:Int)/2 ^ j) 1==1)=true:=by rw[HA.out,hb];rfl
    have HN:Hid (bl (s++⟨#[49]⟩)=(fR n).take (5-j)):=by
     show _=_
     rw[pj,HS.out,HM.out];unfold nT;rw[if_pos hb];rfl
    have hz:s.size<=4:=by rw[<-aO,HS.out,yW];omega
    clear hb HA HM;go_wp2_with fail;go_round
    case rel=>exact⟨j,_,by omega,rfl,rfl,HN.out,by rw[ByteArray.size_append,show (ByteArray.mk #[49]).size=1 from rfl];omega⟩
    case measure=>simp[intOf]
  ·obtain rfl:k=0:=by omega
   go_wp2_with fail;go_ret
   exact⟨s,rfl,by rw[HS.out];rfl,rfl⟩
def mH(p c g v:Int):List F:=pQ (bv (gK p c g v))
theorem kK(p c g v:Int):(mH p c g v).length=12:=by unfold mH;rw[BR,bt];rfl
theorem Fu(p c g v:Int):F.Code (mH p c g v):=sO _
theorem DB(h:dj p c g v=true):wI (bv (gK p c g v))=gK p c g v:=ww fun x hx=>by have:=BZ h x hx;omega
theorem xu(h:dj p c g v=true):jI (gK p c g v)=wI (mH p c g v)/\mZ (gK p c g v)=0:=by have:=Ja (d:=bv (gK p c g v)) (by rw[bt];unfold gK;simp) (by rw[bt];unfold gK;simp);rw[DB h]at this;exact this
def ym(p c g v:Int):List UInt8:=if dj p c g v then eH (mH p c g v) else []
theorem ni(h:dj p c g v=true):ym p c g v=eH (mH p c g v):=by unfold ym;rw[h];rfl
theorem Id(h:dj p c g v=false):ym p c g v=[]:=by unfold ym;rw[h];rfl
def Dp(p c g v:Int)(w:World)(e:Ending)(w':World):Prop:=∃t k,e=.returned (.tuple #[.string t,C D k])/\k=Dn p c g v/\bl t=ym p c g v/\ab w w'
def ji(c:List F)(k:Nat):List UInt8:=List.replicate 7 49++mj (c.take k)
theorem sK{c:List F}(h:k<c.length):ji c (k+1)=ji c k++fR (c.getD k 0).n:=by unfold ji;rw[ax (F.getD_eq h),EJ,xY]
theorem BJ{c:List F}(h:c.length=n):ji c n++List.replicate 7 48=eH c:=by unfold ji eH;rw[bh h]
theorem qF{c:List F}(h:k<=c.length):(ji c k).length=7+5*k:=by unfold ji;rw[yU,mW,yW,uD];omega
theorem sX(p c g v:Int)(w:World) :
  Calls prog 63 #[.agg #[C D p,C D c,C D g,C D v]] w (Dp p c g v w):=by
 rcases yS (dj p c g v) with hb|hb
 ·have S1:=zZ (n9 hb);have D1:=zZ (ni hb);have E1:=zZ (xu hb);have hL:=kK p c g v;generalize mH p c g v=cw at *
  go_enter func63,ntmps63
  go_wp2_with fail;refine (tx p c g v _).mono ?_;rintro e w1 ⟨A1,n1,c1,k1,rfl,hk1,hi1,hx1⟩;rw[S1.out.2]at hk1;rw[S1.out.1]at hi1;subst hk1;have HI:=zZ hi1;have HX:=zZ (ab.trans ((zE _).alloc _) hx1);clear hi1 hx1;go_wp2_with fail;refine (Cc _ (gK p c g v) _ HI.out).mono ?_;rintro e w2 ⟨A2,n2,c2,rfl,hn2,hc2,hc2',ho2,hx2⟩;rw[E1.out.2];rw[E1.out.1]at hn2 ho2;rw[aT,hL]at hn2;subst hn2;have HJ:Hid (ak w2.heap.size w2 (E A2 12 c2) (wI cw)):=qq ho2 (jQ _) (by rw[aT,hL];omega);replace HX:=zZ (HX.out.trans hx2);have HL:=zZ hL;clear ho2 hx2 HI E1 hL;go_wp2_with fail;go_loop [8,9] (fun s i=>∃(k:Nat) (t:ByteArray),k<=12/\i=C D k/\s=.string t/\Hid (bl t=ji cw k)/\t.size<=67) (fun _ i=>12-(intOf i).toNat)
  case atStart=>exact⟨0,_,by omega,rfl,rfl,rfl,by decide⟩
  case round =>
   obtain⟨k,t,hk,rfl,rfl,HT,ht⟩:=hrel;by_cases hlt:k<12
   ·obtain⟨b,off,rfl,hc⟩:=qy HJ.out hlt;have HN:=zZ (sK (c:=cw) (k:=k) (by rw[HL.out];exact hlt));have HNL:=zZ (qF (c:=cw) (k:=k) (by rw[HL.out];omega));generalize cw.getD k 0=y at *
    go_wp2_with fail;refine (BE y _).mono ?_;rintro e w3 ⟨m,rfl,hm,rfl⟩;have hts:t.size=7+5*k:=by rw[<-aO,HT.out,HNL.out]
    have hms:m.size=5:=by rw[<-aO,hm,nN]
    have HM:Hid (bl (t++m)=ji cw (k+1)):=by show _=_;rw[pj,HT.out,hm,HN.out]
    have h1:t.size<=62:=by omega
    have h2:m.size<=5:=by omega
    clear hts hms hm HN HNL HT;go_wp2_with fail;go_round
    case rel=>exact⟨k+1,_,by omega,by go_num,rfl,HM.out,by rw[ByteArray.size_append];omega⟩
    case measure=>simp[intOf];omega
   ·obtain rfl:k=12:=by omega
    have HF:Hid (bl (t++⟨#[48,48,48,48,48,48,48]⟩)=eH cw):=by
     show _=_
     rw[pj,HT.out,<-BJ HL.out];rfl
    clear HT;go_wp2_with fail;go_ret2
    exact⟨_,0,rfl,S1.out.2.symm,by rw[D1.out];exact HF.out,HX.out⟩
 ·have S1:=zZ (tM hb);have D1:=zZ (Id hb);go_enter func63,ntmps63
  go_wp2_with fail;refine (tx p c g v _).mono ?_;rintro e w1 ⟨A1,n1,c1,k1,rfl,hk1,hi1,hx1⟩;rw[S1.out.2]at hk1;subst hk1;have HX:=zZ (ab.trans ((zE _).alloc _) hx1);clear hi1 hx1;go_wp2_with fail;go_ret2
  exact⟨_,2,rfl,S1.out.2.symm,by rw[D1.out];rfl,HX.out⟩
theorem EE:∀(n:Fin 32) (j:Fin 5),(fR n.val).take (4-j.val+1)=(fR n.val).take (4-j.val)++[nT n.val j.val]:=by decide +kernel
theorem Jx{m:Nat}(hn:n<32)(hj:m+j=4):(fR n).take (m+1)=(fR n).take m++[nT n j]:=by have:=EE ⟨n,hn⟩ ⟨j,by omega⟩;simp only at this;rw[show 4-j=m by omega]at this;exact this
theorem Jc(b:UInt8)(n:Nat):Lib.repeatL [b] n=List.replicate n b:=by
 induction n with
 |zero=>rfl
 |succ n ih=>rw[vD,<-ih];rfl
theorem Bf(b:UInt8)(n:Nat)(w:World)(hn:n<=1000) :
  Calls prog 93 #[.string ⟨#[b]⟩,C D (n:Int)] w fun e w'=>∃t,e=.returned (.string t)/\bl t=List.replicate n b/\ab w w' :=
 (II ⟨#[b]⟩ n w (by omega) (by rw[show (ByteArray.mk #[b]).size=1 from rfl];omega)).mono fun _ _ ⟨he,hx⟩=>⟨_,he,by rw[Dz];exact Jc b n,hx⟩
theorem KA(w:World):Calls prog 93 #[.string ⟨#[49]⟩,C D 7] w fun e w'=>∃t,e=.returned (.string t)/\bl t=List.replicate 7 49/\ab w w':=Bf 49 7 w (by omega)
theorem KO(w:World):Calls prog 93 #[.string ⟨#[48]⟩,C D 7] w fun e w'=>∃t,e=.returned (.string t)/\bl t=List.replicate 7 48/\ab w w':=Bf 48 7 w (by omega)
theorem DN{T e:TypeId}{B b:Nat}{p:Value}{bs:List Value}(h:Lib.BuilderAtF T e B b p bs w)(hx:ab w w'):Lib.BuilderAtF T e B b p bs w':=by
 obtain⟨hB,v,hb,hown,hne⟩:=h;refine⟨hB,v,hx.blk hb,⟨hown.1,?_⟩,hne⟩;rcases hown.2 with hn|⟨g,cap,cur,fz,hv,hbg,hg,rest⟩
 ·exact .inl hn
 ·exact .inr ⟨g,cap,cur,fz,hv,hbg,hx.blk hg,rest⟩
theorem Hr{T e:TypeId}{B b:Nat}{bs:List Value}(h:Lib.IsBuilderF T e B b bs w)(hx:ab w w'):Lib.IsBuilderF T e B b bs w' :=
 h.elim (fun x=>.inl (DN x hx)) (fun x=>.inr (DN x hx))
def r7(w0 w:World)(l:List UInt8):Prop:=Lib.IsBuilderF 139 5 w0.heap.size w0.heap.size (Lib.byteCells l) w/\ab w0 w
theorem r7.ext{w0:World}{l:List UInt8}(h:r7 w0 w l)(hx:ab w w'):r7 w0 w' l:=⟨Hr h.1 hx,h.2.trans hx⟩
theorem r7.fresh(w:World):r7 w (w.alloc (.cells #[.pointer none,E none 0 0] 139)) []:=⟨Lib.IsBuilderF.of (Lib.fresh_isBuilder _ _ w),(zE _).alloc _⟩
theorem JP(w0 w:World)(l:List UInt8)(c:UInt8)(h:r7 w0 w l)(hl:l.length<=1000000) :
  Calls prog 94 #[.pointer (some ⟨w0.heap.size,0,none⟩),.int .u8 (c.toNat:Int)] w fun e w'=>e=.returned .nilIface/\r7 w0 w' (l++[c]) :=
 (rt w0.heap.size w0.heap.size _ _ w h.1 (by rw[Lib.byteCells_length];omega) h.2.size).mono fun _ _ ⟨he,h1,h2,_⟩=>⟨he,by rw[Lib.byteCells_append];exact .inr h1,xD h.2 h2⟩
theorem IY(w0 w:World)(l:List UInt8)(h:r7 w0 w l)(hl:l.length<=1000000) :
  Calls prog 94 #[.pointer (some ⟨w0.heap.size,0,none⟩),.int .u8 48] w fun e w'=>e=.returned .nilIface/\r7 w0 w' (l++[48]):=JP w0 w l 48 h hl
theorem JB(w0 w:World)(l:List UInt8)(h:r7 w0 w l)(hl:l.length<=1000000) :
  Calls prog 94 #[.pointer (some ⟨w0.heap.size,0,none⟩),.int .u8 49] w fun e w'=>e=.returned .nilIface/\r7 w0 w' (l++[49]):=JP w0 w l 49 h hl
theorem Ln(w0 w:World)(l:List UInt8)(s:ByteArray)(h:r7 w0 w l)(hl:l.length+s.size<=1000000) :
  Calls prog 92 #[.pointer (some ⟨w0.heap.size,0,none⟩),.string s] w fun e w'=>∃n:Nat,e=.returned (.tuple #[C D (n:Int),.nilIface])/\r7 w0 w' (l++bl s) :=
 (ue w0.heap.size w0.heap.size _ s w h.1 (by rw[Lib.byteCells_length];omega) h.2.size).mono fun _ _ ⟨he,h1,h2,_⟩=>⟨_,he,by rw[Lib.byteCells_append];exact .inr h1,xD h.2 h2⟩
theorem Km(w0 w:World)(l:List UInt8)(h:r7 w0 w l) :
  Calls prog 95 #[.pointer (some ⟨w0.heap.size,0,none⟩)] w fun e w'=>∃t,e=.returned (.string t)/\bl t=l/\ab w0 w' :=
 (Ea w0.heap.size w0.heap.size l w h.1 h.2.size).mono fun _ _ ⟨he,_,h2,_⟩=>⟨_,he,Dz l,xD h.2 h2⟩
theorem Gv(p c g v:Int)(w:World)(hT:cK w) :
  Calls prog 53 #[.agg #[C D p,C D c,C D g,C D v]] w (Dp p c g v w):=by
 have HT:=zZ hT;clear hT;rcases yS (dj p c g v) with hb|hb
 ·have S1:=zZ (n9 hb);have D1:=zZ (ni hb);have E1:=zZ (xu hb);have hL:=kK p c g v;generalize mH p c g v=cw at *
  go_enter func53,ntmps53
  go_wp2_with fail;refine (py p c g v _).mono ?_;rintro e w1 ⟨A1,n1,c1,k1,rfl,hk1,hi1,hx1⟩;rw[S1.out.2]at hk1;rw[S1.out.1]at hi1;subst hk1;have HI:=zZ hi1;have HX:=zZ (ab.trans ((zE _).alloc _) hx1);clear hi1 hx1;go_wp2_with fail;refine (En _ (gK p c g v) _ (HT.out.ext HX.out) HI.out).mono ?_;rintro e w2 ⟨A2,n2,c2,rfl,hn2,hc2,hc2',ho2,hx2⟩;rw[E1.out.2];rw[E1.out.1]at hn2 ho2;rw[aT,hL]at hn2;subst hn2;have HJ:Hid (ak w2.heap.size w2 (E A2 12 c2) (wI cw)):=qq ho2 (jQ _) (by rw[aT,hL];omega);replace HX:=zZ (HX.out.trans hx2);have HL:=zZ hL;clear ho2 hx2 HI E1 hL;go_wp2_with fail;refine (KA _).mono ?_;rintro e w3 ⟨t3,rfl,ht3,hx3⟩;have HB:=zZ ((r7.fresh w2).ext hx3);have HT3:=zZ ht3;have hz3:t3.size<=7:=by rw[<-aO,ht3];simp
  clear hx3 ht3;go_wp2_with fail;refine (Ln w2 _ _ t3 HB.out (by simp;omega)).mono ?_;rintro e w4 ⟨n4,rfl,hb4⟩;rw[HT3.out]at hb4;have HB4:Hid (r7 w2 w4 (ji cw 0)):=by
   show r7 w2 w4 (ji cw 0)
   have:ji cw 0=[]++List.replicate 7 49:=by unfold ji;simp[mj]
   rw[this];exact hb4
  clear hb4 HB HT3 hz3;go_wp2_with fail;go_loopw [9,10,31,35] (fun _ _ i _ wr=>∃k:Nat,k<=12/\i=C D k/\Hid (r7 w2 wr (ji cw k))) (fun _ _ i _ _=>12-(intOf i).toNat)
  case atStart=>exact⟨0,by omega,rfl,HB4⟩
  case round =>
   obtain⟨k,hk,rfl,HB⟩:=hrel;clear HB4;by_cases hlt:k<12
   ·obtain⟨b,off,rfl,hc⟩:=qy (HJ.out.ext HB.out.2) hlt;have HN:=zZ (sK (c:=cw) (k:=k) (by rw[HL.out];exact hlt));have HNL:=zZ (qF (c:=cw) (k:=k) (by rw[HL.out];omega));generalize cw.getD k 0=y at *
    have hy:=y.lt;generalize y.n=n at *
    have hd:decide ((k:Int)<12)=true:=by simp;omega
    go_wp2_with fail;obtain⟨wo,hwo⟩:=nm (wr:World);subst hwo;go_loopw [10,35] (fun _ i wr=>∃m:Nat,m<=5/\i=C D m/\Hid (r7 w2 wr (ji cw k++(fR n).take m))) (fun _ i _=>5-(intOf i).toNat)
    case atStart=>exact⟨0,by omega,rfl,by show r7 _ _ _;rw[List.take_zero,xN];exact HB.out⟩
    case round =>
     obtain⟨m,hm,rfl,HBm⟩:=hrel;by_cases hm5:m<5
     ·obtain⟨j,hj⟩:∃j,m+j=4:=⟨4-m,by omega⟩
      have e1:(4:Int)-(m:Int)=(j:Int):=by omega
      have HA:=zZ (Eb hy (show j<5 by omega));have HM:=zZ (Jx hy hj);have HLm:Hid ((ji cw k++(fR n).take m).length<=1000000):=by
       show _<=_
       rw[yU,HNL.out,yW];omega
      have hj64:j<64:=by omega
      rcases Nat.mod_two_eq_zero_or_one (n/2 ^ j) with hb2|hb2
      ·have e2:bits BinOp.and IntKind.i64 ((n:Int)/2 ^ j) 1=0:=by rw[HA.out,hb2];rfl
       have HMM:Hid (ji cw k++(fR n).take m++[48]=ji cw k++(fR n).take (m+1)):=by
        show _=_
        rw[HM.out,xY];unfold nT;rw[if_neg (by omega)]
       clear hb2 HA HM;go_wp2_with fail;refine (IY w2 _ _ HBm.out HLm.out).mono ?_;rintro e w5 ⟨rfl,hb5⟩;rw[HMM.out]at hb5;have HB5:=zZ hb5;clear hb5 HMM;go_wp2_with fail;go_roundw
       case rel=>exact⟨m+1,by omega,by go_num,HB5⟩
       case measure=>simp[intOf];omega
      ·have e2:bits BinOp.and IntKind.i64 ((n:Int)/2 ^ j) 1=1:=by rw[HA.out,hb2];rfl
       have HMM:Hid (ji cw k++(fR n).take m++[49]=ji cw k++(fR n).take (m+1)):=by
        show _=_
        rw[HM.out,xY];unfold nT;rw[if_pos hb2]
       clear hb2 HA HM;go_wp2_with fail;refine (JB w2 _ _ HBm.out HLm.out).mono ?_;rintro e w5 ⟨rfl,hb5⟩;rw[HMM.out]at hb5;have HB5:=zZ hb5;clear hb5 HMM;go_wp2_with fail;go_roundw
       case rel=>exact⟨m+1,by omega,by go_num,HB5⟩
       case measure=>simp[intOf];omega
     ·obtain rfl:m=5:=by omega
      have HB5:Hid (r7 w2 wr (ji cw (k+1))):=by
       show r7 _ _ _
       rw[HN.out];exact HBm.out
      go_wp2_with fail;go_roundw
      case rel=>exact⟨k+1,by omega,by go_num,HB5⟩
      case measure=>simp[intOf];omega
   ·obtain rfl:k=12:=by omega
    have HF:=zZ (BJ HL.out);go_wp2_with fail;refine (KO _).mono ?_;rintro e w6 ⟨t6,rfl,ht6,hx6⟩;have HB6:=zZ (HB.out.ext hx6);have HT6:=zZ ht6;have hz6:t6.size<=7:=by rw[<-aO,ht6];simp
    have HNL:=zZ (qF (c:=cw) (k:=12) (by rw[HL.out];omega));clear ht6 hx6;go_wp2_with fail;refine (Ln w2 _ _ t6 HB6.out (by rw[HNL.out];omega)).mono ?_;rintro e w7 ⟨n7,rfl,hb7⟩;rw[HT6.out,HF.out]at hb7;have HB7:=zZ hb7;clear hb7;go_wp2_with fail;refine (Km w2 _ _ HB7.out).mono ?_;rintro e w8 ⟨t8,rfl,ht8,hx8⟩;have HT8:=zZ ht8;have HX8:=zZ hx8;clear ht8 hx8;go_wp2_with fail;go_ret2
    exact⟨_,0,rfl,S1.out.2.symm,by rw[D1.out];exact HT8.out,HX.out.trans HX8.out⟩
 ·have S1:=zZ (tM hb);have D1:=zZ (Id hb);go_enter func53,ntmps53
  go_wp2_with fail;refine (py p c g v _).mono ?_;rintro e w1 ⟨A1,n1,c1,k1,rfl,hk1,hi1,hx1⟩;rw[S1.out.2]at hk1;subst hk1;have HX:=zZ (ab.trans ((zE _).alloc _) hx1);clear hi1 hx1;go_wp2_with fail;go_ret2
  exact⟨_,2,rfl,S1.out.2.symm,by rw[D1.out];rfl,HX.out⟩
end Go.Proofs.YtkaajgoeahahpaaGreatDoor

