import Derived.Test.YtpaidaphacoblaaGreatDoorK17
set_option linter.all false
set_option maxRecDepth 100000
set_option maxHeartbeats 0
namespace Go.Proofs.YtpaidaphacoblaaGreatDoor
open Go.Value renaming int→B,slice→D
open Go.IntKind renaming i64→C
open Go.RowKit _root_.Go.Proofs.Tryz
variable {l:List Int} {k m n:Nat} {g p v:Int} {c s:List UInt8}
def nj(l:List Int)(n k:Nat):List F:=(bv l).take k++List.replicate (n+6-k) 0
theorem zg(hl:l.length=n)(hk:k<=n):(nj l n k).length=n+6:=by unfold nj;rw[yU,yW,bt,uD];omega
theorem F7{x:Int}{y:F}(hl:l.length=n)(hx:l[k]?=some x)(hy:(y.n:Int)=x):(nj l n k).set k y=nj l n (k+1):=by
 have hk:=(zY.1 hx).1;unfold nj;have e1:((bv l).take k).length=k:=by rw[yW,bt];omega
 rw[vO _ _ (by omega),e1,vH,show n+6-k=(n+6-(k+1))+1 by omega,vD,M5];have e2:(bv l)[k]?=some y:=by
  rw[Cq hx];have:x.toNat%32=y.n:=by have:=y.lt;omega
  congr 1
  exact F.ext this
 rw[ax e2,xY];rfl
theorem FP(hl:l.length=n):F.Off (xl 0 (bv (wI (nj l n n))) ((List.range 6).map fun i=>n+i)) (pQ (bv l)) ((List.range 6).map fun i=>n+i):=by
 rw[nH,tP];have e0:(bv l).take n=bv l:=xV (by rw[bt];omega);refine⟨by rw[BR,bt,zg hl (zX _),hl],fun i hi=>?_⟩;unfold nj pQ;rw[e0];rcases zU i n with h|h
 ·rw[yY (by rw[bt];omega),yY (by rw[bt];omega)]
 ·have:n+6<=i:=by
   rcases zU i (n+6) with h2|h2
   ·exact absurd (zF.2 ⟨i-n,yX.2 (by omega),by omega⟩) hi
   ·exact h2
  rw[zC (by rw[yU,bt,(F.enc_code _).2];omega),zC (by rw[yU,bt,uD];omega)]
theorem Cc{q:Nat}(v:Value)(l:List Int)(w:World)(hI:ak q w v l) :
  Calls prog 57 #[v] w fun e w'=>∃A m c,e=.returned (.tuple #[D A m c,B C (mZ l)])/\m=(jI l).length/\m<=c/\c<=9223372036854775807/\w'.ownsRow w.heap.size 3 1 (D A m c) m ((jI l).map (Value.int .i64))/\ab w w':=by
 have h0:=hI.re (q:=w.heap.size) (zX _);obtain⟨A,n,c,rfl,hnc,hc,hnn,HL⟩:=hI.open_;have HI:=zZ h0;clear hI h0;have hbad:∀w',eV l=false->ab w w'->∃A m c,Ending.returned (.tuple #[D none 0 0,B C 2])=.returned (.tuple #[D A m c,B C (mZ l)])/\m=(jI l).length/\m<=c/\c<=9223372036854775807/\w'.ownsRow w.heap.size 3 1 (D A m c) m ((jI l).map (Value.int .i64))/\ab w w':=fun w' hd hx=>by
  refine⟨none,0,0,?_,?_,by omega,by omega,?_,hx⟩
  ·unfold mZ;rw[hd];rfl
  ·unfold jI;rw[hd];rfl
  ·unfold jI;rw[hd];exact yZ _ _ _ _
 have HBAD:=zZ hbad;clear hbad;by_cases h1:n<1
 ·go_enter func57,ntmps57
  go_wp2_with fail;go_ret2
  exact HBAD.out _ (by
   rcases yS (eV l) with h|h
   ·have:=nE h;have:=HL.out;omega
   ·exact h) (zE _)
 by_cases h9:9<n
 ·go_enter func57,ntmps57
  go_wp2_with fail;go_ret2
  exact HBAD.out _ (by
   rcases yS (eV l) with h|h
   ·have:=nE h;have:=HL.out;omega
   ·exact h) (zE _)
 have hmkI:=lf (n+6) (by omega);rw[show (((n+6:Nat)):Int)=(n:Int)+6 by omega]at hmkI;obtain⟨i0,hi0,hz0,hz1,hz2⟩:=info_parts Tryz.infoI;obtain⟨b,o,z,rfl,-⟩:=HI.out.at_ (k:=0) (by omega);have HG0:Hid (eT w.heap.size (w.alloc (.cells (madeCells #[B C 0] (n+6)) 3)) (D (some ⟨w.heap.size,0,none⟩) (n+6) (n+6)) (nj l n 0)):=by
  have h:=heap_alloc_new w (.cells (madeCells #[B C 0] (n+6)) 3);rw[lA]at h⊢;have hz:nj l n 0=List.replicate (n+6) 0:=by simp[nj]
  rw[hz];exact mU h (by rw[uD]) (zX _) (by omega)
 have HE0:=zZ ((zE w).alloc (.cells (madeCells #[B C 0] (n+6)) 3));go_enter func57,ntmps57
 go_wp2_with fail;go_loopw [6] (fun s6 wr=>∃(k:Nat),s6=B C (k:Int)/\k<=n/\Hid ((∀i x,i<k->l[i]?=some x->0<=x/\x<32)/\eT w.heap.size wr (D (some ⟨w.heap.size,0,none⟩) (n+6) (n+6)) (nj l n k)/\ab w wr)) (fun i _=>n-(intOf i).toNat)
 case atStart=>exact⟨0,rfl,by omega,fun i x h=>by omega,HG0.out,HE0.out⟩
 case round =>
  clear HG0 HE0 hmkI;obtain⟨k,rfl,hk,HK⟩:=hrel;have HV:=zZ HK.out.1;have HO:=zZ HK.out.2.1;have HE:=zZ HK.out.2.2;clear HK;have HZL:=zZ (zg (k:=k) HL.out hk);by_cases hkn:k<n
  ·obtain⟨x,cx,hx,hx1,hx2⟩:=(HI.out.ext HE.out).cell_ hkn;rcases yS (iU x) with hel|hel
   ·have hxb:0<=x/\x<32:=by unfold iU at hel;simp at hel;omega
    obtain⟨y,hy⟩:∃y:F,(y.n:Int)=x:=⟨F.mk x.toNat (by omega),by rw[F.n_mk];omega⟩
    subst hy;obtain⟨z0,hz0'⟩:∃z0,(nj l n k)[k]?=some z0:=⟨_,zV (by rw[HZL.out];omega)⟩
    have cy:=HO.out.cell HZL.out hz0';have cf:=HO.out.froz HZL.out k;have HP:=zZ (HO.out.put HZL.out k y);rw[F7 HL.out hx.out rfl]at HP;have HE2:=zZ (HE.out.setCell (p:=⟨w.heap.size,k,none⟩) (zX _) (B C (y.n:Int)));go_wp2_with (go_at_call 93;refine (dM (y.n:Int) _ (by omega) (by omega)).mono ?_;rintro e w1 ⟨rfl,rfl⟩;rw[hel]);go_roundw
    case rel=>exact⟨k+1,by go_num,by omega,fun i x' h1 h2=>(by
     by_cases e:i=k
     ·subst e;rw[hx.out]at h2;injection h2 with h2;omega
     ·exact HV.out i x' (by omega) h2),HP.out,HE2.out⟩
    case measure=>simp[intOf];omega
   ·go_wp2_with (go_at_call 93;refine (dM x _ (by omega) (by omega)).mono ?_;rintro e w1 ⟨rfl,rfl⟩;rw[hel]);go_ret2
    refine HBAD.out _ ?_ HE.out;rcases yS (eV l) with h|h
    ·have:=(nE h).2.2 x (zW hx.out);unfold iU at hel;simp at hel;omega
    ·exact h
  ·obtain rfl:k=n:=by omega
   have HDB:Hid (eV l=true):=BO (by have:=HL.out;omega) (by have:=HL.out;omega) fun x hx=>by obtain⟨i,hi,rfl⟩:=List.getElem_of_mem hx;exact HV.out i _ (by rw[<-HL.out];exact hi) (zV hi)
   obtain⟨W1,hW1⟩:=nm (wr:World);subst hW1;clear HBAD HV;go_wp2_with fail;go_loopw [5,7] (fun s5 s7 wr=>∃(j:Nat),s7=B C (j:Int)/\j<=6/\Hid (wr.ownsRow W1.heap.size 3 1 s5 j ((fW ((List.range j).map fun i=>k+i)).map (Value.int .i64))/\ab W1 wr)) (fun _ i _=>6-(intOf i).toNat)
   case atStart=>exact⟨0,rfl,by omega,yZ _ _ _ _,zE _⟩
   case round =>
    obtain⟨j,rfl,hj,HK⟩:=hrel;have HO5:=zZ HK.out.1;have HE5:=zZ HK.out.2;clear HK;by_cases hj6:j<6
    ·go_wp2_with (at_builtin;refine aF _ rfl (.tmp 45) (.tmp 50) 22 rfl W1.heap.size 3 i0 _ 8 underlying22 hi0 hz0 hz1 hz2 rfl u5 j _ rfl (HO5.out.alloc _) _ _ rfl (by simp;rfl) rfl (by omega) (by omega) (by have:=HE5.out.size;simp;omega) ?_;intro v4 w4 hown4 hg4;have HE4:=zZ (ab.grown (HE5.out.alloc _) hg4 (aq HO5.out));have HO4:=zZ hown4;clear hown4 hg4);go_roundw
     case rel =>
      refine⟨j+1,by go_num,by omega,?_,HE4.out⟩;have e:fW ((List.range (j+1)).map fun i=>k+i)=fW ((List.range j).map fun i=>k+i)++[(k:Int)+(j:Int)]:=by rw[xP,yG];unfold fW;rw[yG];simp
      rw[e,yG];exact HO4.out
     case measure=>simp[intOf];omega
    ·obtain rfl:j=6:=by omega
     have HOW:=zZ (HO.out.ext HE5.out);have HWI:Hid (ak wr.heap.size wr (D (some ⟨w.heap.size,0,none⟩) (k+6) (k+6)) (wI (nj l k k))):=ak.of_own' (p:=wr.heap.size) (e:=3) HOW.out (fun h=>by have:=(HOW.out.lt _ h).2;omega) (jQ _) (by rw[aT,HZL.out];omega);have HPI:Hid (ak wr.heap.size wr u5 (fW ((List.range 6).map fun i=>k+i))):=ak.of_own' (p:=wr.heap.size) (e:=3) HO5.out (fun h=>by have:=(HO5.out.lt _ h).2;omega) (na fun p hp=>by obtain⟨i,hi,rfl⟩:=zF.1 hp;have:=yX.1 hi;omega) (by rw[fd];simp)
     have HF:=zZ (pa (D (some ⟨w.heap.size,0,none⟩) (k+6) (k+6)) u5 (wI (nj l k k)) ((List.range 6).map fun i=>k+i) wr HWI.out HPI.out (by rw[aT,HZL.out];omega) (by rw[aT,HZL.out];omega)
      (List.Pairwise.map _ (fun a b h=>(by omega)) List.nodup_range)
      (fun p hp=>by
       obtain⟨i,hi,rfl⟩:=zF.1 hp;have:=yX.1 hi;rw[aT,HZL.out];omega) (by simp) (fun i x _ hx=>by
       unfold wI at hx;rw[zP,yO]at hx;obtain⟨f,_,rfl⟩:=hx;have:=f.lt;omega))
     have hs5:w.heap.size<=wr.heap.size:=yR HE.out.size HE5.out.size;go_wp2_with (go_at_call 94;refine HF.out.mono ?_;rintro e w1 ⟨g,cp1,cw,rfl,hg1,hg2,hcl,hown,hx1,hoff,huq⟩);go_ret2
     have hcw:pQ (bv l)=cw:=huq _ (FP HL.out) (sO _);have e1:jI l=wI cw:=by unfold jI;rw[if_pos HDB.out,hcw]
     have e2:mZ l=0:=by unfold mZ;rw[if_pos HDB.out]
     rw[e1,e2];refine⟨some ⟨g,0,none⟩,_,cp1,rfl,by rw[aT,aT,hcl,aT],hg1,hg2,?_,(HE.out.trans HE5.out).trans hx1⟩;have:=gM hown hs5;unfold eT at hown;rw[hcl]at hown;exact gM hown hs5
theorem Jw:∀(n:Fin 32) (j:Fin 5),bits BinOp.and IntKind.i64 ((n.val:Int)/2 ^ j.val) 1=((n.val/2 ^ j.val%2:Nat):Int):=by decide +kernel
theorem Eb{j:Nat}(hn:n<32)(hj:j<5):bits BinOp.and IntKind.i64 ((n:Int)/2 ^ j) 1=((n/2 ^ j%2:Nat):Int):=Jw ⟨n,hn⟩ ⟨j,hj⟩
theorem Ia:∀(n:Fin 32) (j:Fin 5),(fR n.val).take (5-j.val)=(fR n.val).take (5-(j.val+1))++[nT n.val j.val]:=by decide +kernel
theorem El{j:Nat}(hn:n<32)(hj:j<5):(fR n).take (5-j)=(fR n).take (5-(j+1))++[nT n j]:=Ia ⟨n,hn⟩ ⟨j,hj⟩
theorem BE(x:F)(w:World) :
  Calls prog 58 #[B C (x.n:Int)] w fun e w'=>∃t,e=.returned (.string t)/\bl t=fR x.n/\w=w':=by
 have hx:=x.lt;obtain⟨n,hn⟩:=nm x.n;rw[<-hn]at hx⊢;clear hn x;go_enter func58,ntmps58
 go_wp2_with fail;go_loop [3,4] (fun v i=>∃(k:Nat) (s:ByteArray),k<=5/\i=B C ((k:Int)-1)/\v=.string s/\Hid (bl s=(fR n).take (5-k))/\s.size<=5) (fun _ i=>((intOf i)+1).toNat)
 case atStart=>exact⟨5,_,by omega,rfl,rfl,rfl,by decide⟩
 case round =>
  obtain⟨k,s,hk,rfl,rfl,HS,hs⟩:=hrel;by_cases h0:0<k
  ·obtain⟨j,rfl⟩:∃j,k=j+1:=⟨k-1,by omega⟩
   have e1:(((j+1:Nat):Int)-1)=(j:Int):=by omega
   rw[e1];clear e1;have hj:j<64:=by omega
   have HA:=zZ (Eb hx (show j<5 by omega));have HM:=zZ (El hx (show j<5 by omega));rcases Nat.mod_two_eq_zero_or_one (n/2 ^ j) with hb|hb
   ·have e1:(bits BinOp.and IntKind.i64 ((n:Int)/2 ^ j) 1==1)=false:=by rw[HA.out,hb];rfl
    have HN:Hid (bl (s++⟨#[48]⟩)=(fR n).take (5-j)):=by
     show _=_
     rw[pj,HS.out,HM.out];unfold nT;rw[if_neg (by omega)];rfl
    have hz:s.size<=4:=by rw[<-aO,HS.out,yW];omega
    clear hb HA HM;go_wp2_with fail;go_round
    case rel=>exact⟨j,_,by omega,rfl,rfl,HN.out,by rw[ByteArray.size_append,show (ByteArray.mk #[48]).size=1 from rfl];omega⟩
    case measure=>simp[intOf]
   ·have e1:(bits BinOp.and IntKind.i64 ((n:Int)/2 ^ j) 1==1)=true:=by rw[HA.out,hb];rfl
    have HN:Hid (bl (s++⟨#[49]⟩)=(fR n).take (5-j)):=by
     show _=_
     rw[pj,HS.out,HM.out];unfold nT;rw[if_pos hb];rfl
    have hz:s.size<=4:=by rw[<-aO,HS.out,yW];omega
    clear hb HA HM;go_wp2_with fail;go_round
    case rel=>exact⟨j,_,by omega,rfl,rfl,HN.out,by rw[ByteArray.size_append,show (ByteArray.mk #[49]).size=1 from rfl];omega⟩
    case measure=>simp[intOf]
  ·obtain rfl:k=0:=by omega
   go_wp2_with fail;go_ret
   exact⟨s,rfl,by rw[HS.out];rfl,rfl⟩
def mH(p c g v:Int):List F:=pQ (bv (gK p c g v))
theorem kK(p c g v:Int):(mH p c g v).length=12:=by unfold mH;rw[BR,bt];rfl
theorem Fu(p c g v:Int):F.Code (mH p c g v):=sO _
theorem DB{c:Int}(h:dj p c g v=true):wI (bv (gK p c g v))=gK p c g v:=ww fun x hx=>by have:=BZ h x hx;omega
theorem xu{c:Int}(h:dj p c g v=true):jI (gK p c g v)=wI (mH p c g v)/\mZ (gK p c g v)=0:=by have:=Ja (d:=bv (gK p c g v)) (by rw[bt];unfold gK;simp) (by rw[bt];unfold gK;simp);rw[DB h]at this;exact this
def ym(p c g v:Int):List UInt8:=if dj p c g v then eH (mH p c g v) else []
theorem ni{c:Int}(h:dj p c g v=true):ym p c g v=eH (mH p c g v):=by unfold ym;rw[h];rfl
theorem Id{c:Int}(h:dj p c g v=false):ym p c g v=[]:=by unfold ym;rw[h];rfl
def Dp(p c g v:Int)(w:World)(e:Ending)(w':World):Prop:=∃t k,e=.returned (.tuple #[.string t,B C k])/\k=Dn p c g v/\bl t=ym p c g v/\ab w w'
def ji(c:List F)(k:Nat):List UInt8:=List.replicate 7 49++mj (c.take k)
theorem sK{c:List F}(h:k<c.length):ji c (k+1)=ji c k++fR (c.getD k 0).n:=by unfold ji;rw[ax (F.getD_eq h),EJ,xY]
theorem BJ{c:List F}(h:c.length=n):ji c n++List.replicate 7 48=eH c:=by unfold ji eH;rw[bh h]
theorem qF{c:List F}(h:k<=c.length):(ji c k).length=7+5*k:=by unfold ji;rw[yU,mW,yW,uD];omega
theorem sX(p c g v:Int)(w:World) :
  Calls prog 26 #[.agg #[B C p,B C c,B C g,B C v]] w (Dp p c g v w):=by
 rcases yS (dj p c g v) with hb|hb
 ·have S1:=zZ (n9 hb);have D1:=zZ (ni hb);have E1:=zZ (xu hb);have hL:=kK p c g v;generalize mH p c g v=cw at *
  go_enter func26,ntmps26
  go_wp2_with fail;refine (tx p c g v _).mono ?_;rintro e w1 ⟨A1,n1,c1,k1,rfl,hk1,hi1,hx1⟩;rw[S1.out.2]at hk1;rw[S1.out.1]at hi1;subst hk1;have HI:=zZ hi1;have HX:=zZ (ab.trans ((zE _).alloc _) hx1);clear hi1 hx1;go_wp2_with fail;refine (Cc _ (gK p c g v) _ HI.out).mono ?_;rintro e w2 ⟨A2,n2,c2,rfl,hn2,hc2,hc2',ho2,hx2⟩;rw[E1.out.2];rw[E1.out.1]at hn2 ho2;rw[aT,hL]at hn2;subst hn2;have HJ:Hid (ak w2.heap.size w2 (D A2 12 c2) (wI cw)):=qq ho2 (jQ _) (by rw[aT,hL];omega);replace HX:=zZ (HX.out.trans hx2);have HL:=zZ hL;clear ho2 hx2 HI E1 hL;go_wp2_with fail;go_loop [8,9] (fun s i=>∃(k:Nat) (t:ByteArray),k<=12/\i=B C k/\s=.string t/\Hid (bl t=ji cw k)/\t.size<=67) (fun _ i=>12-(intOf i).toNat)
  case atStart=>exact⟨0,_,by omega,rfl,rfl,rfl,by decide⟩
  case round =>
   obtain⟨k,t,hk,rfl,rfl,HT,ht⟩:=hrel;by_cases hlt:k<12
   ·obtain⟨b,off,rfl,hc⟩:=qy HJ.out hlt;have HN:=zZ (sK (c:=cw) (k:=k) (by rw[HL.out];exact hlt));have HNL:=zZ (qF (c:=cw) (k:=k) (by rw[HL.out];omega));generalize cw.getD k 0=y at *
    go_wp2_with fail;refine (BE y _).mono ?_;rintro e w3 ⟨m,rfl,hm,rfl⟩;have hts:t.size=7+5*k:=by rw[<-aO,HT.out,HNL.out]
    have hms:m.size=5:=by rw[<-aO,hm,nN]
    have HM:Hid (bl (t++m)=ji cw (k+1)):=by show _=_;rw[pj,HT.out,hm,HN.out]
    have h1:t.size<=62:=by omega
    have h2:m.size<=5:=by omega
    clear hts hms hm HN HNL HT;go_wp2_with fail;go_round
    case rel=>exact⟨k+1,_,by omega,by go_num,rfl,HM.out,by rw[ByteArray.size_append];omega⟩
    case measure=>simp[intOf];omega
   ·obtain rfl:k=12:=by omega
    have HF:Hid (bl (t++⟨#[48,48,48,48,48,48,48]⟩)=eH cw):=by
     show _=_
     rw[pj,HT.out,<-BJ HL.out];rfl
    clear HT;go_wp2_with fail;go_ret2
    exact⟨_,0,rfl,S1.out.2.symm,by rw[D1.out];exact HF.out,HX.out⟩
 ·have S1:=zZ (tM hb);have D1:=zZ (Id hb);go_enter func26,ntmps26
  go_wp2_with fail;refine (tx p c g v _).mono ?_;rintro e w1 ⟨A1,n1,c1,k1,rfl,hk1,hi1,hx1⟩;rw[S1.out.2]at hk1;subst hk1;have HX:=zZ (ab.trans ((zE _).alloc _) hx1);clear hi1 hx1;go_wp2_with fail;go_ret2
  exact⟨_,2,rfl,S1.out.2.symm,by rw[D1.out];rfl,HX.out⟩
def vk(s:List UInt8):List Int:=if bd s then bY s else []
def vd(s:List UInt8):Int:=if bd s then 0 else 7
theorem lD(h:bd s=true):vk s=bY s/\vd s=0:=by unfold vk vd;rw[h];exact⟨rfl,rfl⟩
theorem Iq(h:bd s=false):vk s=[]/\vd s=7:=by unfold vk vd;rw[h];exact⟨rfl,rfl⟩
def Dq(s:List UInt8)(w:World)(e:Ending)(w':World):Prop:=∃A n cc k,e=.returned (.tuple #[D A n cc,B C k])/\k=vd s/\ak w'.heap.size w' (D A n cc) (vk s)/\ab w w'
theorem FV{l:List UInt8}{x:UInt8}(hm:m<5)(h:l[7+5*k+m]?=some x):(ft l k)[m]?=some x:=by unfold ft;rw[yB,if_pos hm,vR];exact h
theorem Fx(b:List UInt8)(x:UInt8):E8 (b++[x])=2*E8 b+(x.toNat-48):=by unfold E8;rw[uR];rfl
structure jC (c:List UInt8) (m n:Nat):Prop where
 lt:n<2 ^ m
 eq:63 ∉ c.take m->n=E8 (c.take m)
theorem jC.zero(c:List UInt8):jC c 0 0:=⟨by decide,fun _=>rfl⟩
theorem jC.step{d:Nat}{x:UInt8}(h:jC c m n)(hx:c[m]?=some x)(hd:d<2)(he:x≠63->d=x.toNat-48):jC c (m+1) (2*n+d):=by
 refine⟨?_,fun hn=>?_⟩
 ·have:=h.lt;rw[Nat.pow_succ];omega
 ·rw[ax hx]at hn⊢;rw[zM]at hn;have h1:63 ∉ c.take m:=fun e=>hn (.inl e);have h2:x≠63:=fun e=>hn (.inr (by rw[e];simp));rw[Fx,<-h.eq h1,<-he h2]
theorem Bg(h:c.count 63=0)(hb:jC c 5 n)(hl:c.length=5):jj c=(n:Int):=by have h1:63 ∉ c:=List.count_eq_zero.1 h;unfold jj;rw[if_neg h1,hb.eq (by rw[bh hl];exact h1),bh hl]
theorem mw(s:List UInt8)(h:k<12):(bY s).take (k+1)=(bY s).take k++[jj (ft s k)]:=ax (yy s h)
theorem tD(h:bd s=true):∀x∈bY s,aU x:=fun x hx=>by have:=(ew (mE h)).2.2 x hx;constructor<;>omega
theorem BM{s:ByteArray}{q:Nat}(h:bd (bl s)=true)(hq:q<s.size):(s[q].toNat:Int)=48\/(s[q].toNat:Int)=49\/(s[q].toNat:Int)=63:=by have:=(gh.1 h).2 _ (zW (nJ hq));rcases this with e|e|e<;>rw[e]<;>simp
theorem Ie:∀(n:Fin 16) (d:Fin 2),bits BinOp.or IntKind.i64 ((n.val:Int)*2) (d.val:Int)=((2*n.val+d.val:Nat):Int):=by decide +kernel
def CG(l:List UInt8)(k:Nat)(u:Int):List Int:=(bY l).take k++u::List.replicate (11-k) 0
theorem Kx(l:List UInt8)(u:Int)(hk:k<12):(CG l k u)[k]?=some u:=by unfold CG;rw[yL (by rw[yW,dc];omega),yW,dc,show k-min k 12=0 by omega];rfl
theorem wv(l:List UInt8)(u v:Int)(hk:k<12):(CG l k u).set k v=CG l k v:=by unfold CG;rw[vO _ _ (by rw[yW,dc];omega),yW,dc,show k-min k 12=0 by omega];rfl
theorem FH(l:List UInt8)(hk:k<11):CG l k (jj (ft l k))=CG l (k+1) 0:=by unfold CG;rw[mw l (by omega),show 11-k=(11-(k+1))+1 by omega,vD,xY];rfl
theorem Ik(l:List UInt8):CG l 11 (jj (ft l 11))=bY l:=by have h:=mw l (k:=11) (by omega);rw[bh (dc l)]at h;rw[h];rfl
def Kd(l:List UInt8)(k:Nat):List Int:=if k<12 then CG l k 0 else bY l
theorem Bj(l:List UInt8)(hk:k<12):CG l k (jj (ft l k))=Kd l (k+1):=by
 unfold Kd;by_cases h:k+1<12
 ·rw[if_pos h,FH l (by omega)]
 ·rw[if_neg h];obtain rfl:k=11:=by omega
  exact Ik l
theorem Jq(h:c[m]?=some 63):jj c=-1:=by unfold jj;rw[if_pos (zW h)]
structure JN (c:List UInt8) (m n:Nat):Prop where
 b:jC c m n
 no:63 ∉ c.take m
theorem JN.step{c:List UInt8}{m n d:Nat}{x:UInt8}(h:JN c m n)(hx:c[m]?=some x)(hd:d<2)(he:x.toNat=48+d):JN c (m+1) (2*n+d):=by
 refine⟨h.b.step hx hd (fun _=>by omega),?_⟩;rw[ax hx,zM];rintro (e|e)
 ·exact h.no e
 ·simp at e;rw[<-e]at he;simp at he;omega
theorem JN.all(h:JN c 5 n)(hl:c.length=5):jj c=(n:Int):=by have:=h.no;rw[bh hl]at this;exact Bg (List.count_eq_zero.2 this) h.b hl
theorem FY(s:ByteArray)(w:World):Calls prog 100 #[.string s] w (Dq (bl s) w):=by
 rcases yS (bd (bl s)) with hb|hb
 ·have hs:s.size=74:=by rw[<-aO];exact (gh.1 hb).1
  have h74:74<=s.size:=by omega
  have h75:s.size<=74:=by omega
  have HW:Bx (vk (bl s)=bY (bl s)/\vd (bl s)=0):=⟨lD hb⟩
  have HB:Bx (bd (bl s)=true):=⟨hb⟩
  have HL:Bx ((bl s).length=74):=⟨by rw[aO];exact hs⟩
  clear hs;obtain⟨z,hz⟩:=nm (madeCells #[Value.int .i64 0] 12);have hmk:∀w,(Instr.makeSlice 22 (B C 12) (B C 12)).run prog w=.ok (D (some ⟨w.heap.size,0,none⟩) 12 12) (w.alloc (.cells z 3)):=by rw[hz];exact lf 12 (by omega)
  have HO0:Bx ((w.alloc (.cells z 3)).ownsRow w.heap.size 3 1 (D (some ⟨w.heap.size,0,none⟩) 12 12) 12 ((Kd (bl s) 0).map (Value.int .i64))):=⟨by rw[hz,lA];exact uT w _ 12 (zX _) (by unfold maxLen;omega) rfl⟩
  clear hz;go_enter func100,ntmps100
  go_wp2_with fail;refine (fk _ _).mono ?_;rintro r w1 ⟨rfl,rfl⟩;rw[hb];go_wp2_with fail;clear hb;go_loopw [5,6,7,14,17] (fun _ _ _ i _ wr=>∃k:Nat,k<=12/\i=B C k/\Bx (wr.ownsRow w.heap.size 3 1 (D (some ⟨w.heap.size,0,none⟩) 12 12) 12 ((Kd (bl s) k).map (Value.int .i64)))/\Bx (ab w wr)) (fun _ _ _ i _ _=>12-(intOf i).toNat)
  case atStart=>exact⟨0,by omega,rfl,HO0,⟨(zE _).alloc _⟩⟩
  case round =>
   obtain⟨k,hk,rfl,HO,HE⟩:=hrel;clear HO0 hmk;by_cases hlt:k<12
   ·have hd:decide ((k:Int)<12)=true:=by simp;omega
    have HCL:Bx ((ft (bl s) k).length=5):=⟨rf HL.out hlt⟩
    have HO1:Bx (wr.ownsRow w.heap.size 3 1 (D (some ⟨w.heap.size,0,none⟩) 12 12) 12 ((CG (bl s) k ((0:Nat):Int)).map (Value.int .i64))):=⟨by have:=HO.out;unfold Kd at this;rw[if_pos hlt]at this;exact this⟩
    clear HO;go_wp2_with fail;obtain⟨wo,hwo⟩:=nm (wr:World);subst hwo;go_loopw [6,7,17] (fun _ _ i wr=>∃m n:Nat,m<=5/\n<32/\i=B C m/\Bx (JN (ft (bl s) k) m n)/\Bx (wr.ownsRow w.heap.size 3 1 (D (some ⟨w.heap.size,0,none⟩) 12 12) 12 ((CG (bl s) k (n:Int)).map (Value.int .i64)))/\Bx (ab w wr)) (fun _ _ i _=>5-(intOf i).toNat)
    case atStart=>exact⟨0,0,by omega,by omega,rfl,⟨⟨jC.zero _,by simp⟩⟩,HO1,HE⟩
    case round =>
     obtain⟨m,n,hm,hn,rfl,HR,HOm,HEm⟩:=hrel;clear HO1 HE;by_cases hm5:m<5
     ·obtain⟨q,hq0⟩:=nm (7+k*5+m);have hq:q<s.size:=by omega
      have HC:Bx ((ft (bl s) k)[m]?=some s[q]):=⟨FV hm5 (by rw[show 7+5*k+m=q by omega];exact nJ hq)⟩
      have eq1:(7:Int)+(k:Int)*5+(m:Int)=(q:Int):=by omega
      have hnm:n<16:=by have:=HR.out.b.lt;have h4:(2:Nat) ^ m<=2 ^ 4:=Nat.pow_le_pow_right (by omega) (by omega);omega
      clear hq0;have cc:wr.cell? ⟨w.heap.size,k,none⟩=some (B C (n:Int)):=by rw[HOm.out.cellAt k (by omega)];simp[Kx (bl s) _ hlt]
      have cf:=HOm.out.frozenAt k;rcases BM HB.out hq with a1|a1|a1
      ·have HS:Bx (JN (ft (bl s) k) (m+1) (2*n+0)):=⟨HR.out.step HC.out (by omega) (by omega)⟩
       have hor:bits BinOp.or IntKind.i64 ((n:Int)*2) 0=((2*n+0:Nat):Int):=Ie ⟨n,hnm⟩ ⟨0,by omega⟩;obtain⟨n2,hn2⟩:=nm (2*n+0);rw[<-hn2]at hor HS;have h32:n2<32:=by omega
       have HO2:Bx ((wr.setCell ⟨w.heap.size,k,none⟩ (B C (n2:Int))).ownsRow w.heap.size 3 1 (D (some ⟨w.heap.size,0,none⟩) 12 12) 12 ((CG (bl s) k (n2:Int)).map (Value.int .i64))):=⟨by rw[<-wv (bl s) (n:Int) (n2:Int) hlt];exact ug HOm.out⟩
       have HE2:Bx (ab w (wr.setCell ⟨w.heap.size,k,none⟩ (B C (n2:Int)))):=⟨HEm.out.setCell (zX _) _⟩
       clear hn2 HC HR HOm HEm;go_wp2_with fail;go_roundw
       case rel=>exact⟨m+1,n2,by omega,by omega,by go_num,HS,HO2,HE2⟩
       case measure=>simp[intOf];omega
      ·have HS:Bx (JN (ft (bl s) k) (m+1) (2*n+1)):=⟨HR.out.step HC.out (by omega) (by omega)⟩
       have hor:bits BinOp.or IntKind.i64 ((n:Int)*2) 1=((2*n+1:Nat):Int):=Ie ⟨n,hnm⟩ ⟨1,by omega⟩;obtain⟨n2,hn2⟩:=nm (2*n+1);rw[<-hn2]at hor HS;have h32:n2<32:=by omega
       have HO2:Bx ((wr.setCell ⟨w.heap.size,k,none⟩ (B C (n2:Int))).ownsRow w.heap.size 3 1 (D (some ⟨w.heap.size,0,none⟩) 12 12) 12 ((CG (bl s) k (n2:Int)).map (Value.int .i64))):=⟨by rw[<-wv (bl s) (n:Int) (n2:Int) hlt];exact ug HOm.out⟩
       have HE2:Bx (ab w (wr.setCell ⟨w.heap.size,k,none⟩ (B C (n2:Int)))):=⟨HEm.out.setCell (zX _) _⟩
       clear hn2 HC HR HOm HEm;go_wp2_with fail;go_roundw
       case rel=>exact⟨m+1,n2,by omega,by omega,by go_num,HS,HO2,HE2⟩
       case measure=>simp[intOf];omega
      ·have HV:Bx (jj (ft (bl s) k)=-1):=⟨Jq (by rw[HC.out];exact congrArg some (UInt8.toNat_inj.1 (show s[q].toNat=(63:UInt8).toNat by simp;omega)))⟩
       have HO2:Bx ((wr.setCell ⟨w.heap.size,k,none⟩ (B C (-1))).ownsRow w.heap.size 3 1 (D (some ⟨w.heap.size,0,none⟩) 12 12) 12 ((Kd (bl s) (k+1)).map (Value.int .i64))):=⟨by rw[<-Bj (bl s) hlt,HV.out,<-wv (bl s) (n:Int) (-1) hlt];exact ug HOm.out⟩
       have HE2:Bx (ab w (wr.setCell ⟨w.heap.size,k,none⟩ (B C (-1)))):=⟨HEm.out.setCell (zX _) _⟩
       clear HC HR HOm HEm;go_wp2_with fail;go_roundw
       case rel=>exact⟨k+1,by omega,by go_num,HO2,HE2⟩
       case measure=>simp[intOf];omega
     ·obtain rfl:m=5:=by omega
      have HO2:Bx (wr.ownsRow w.heap.size 3 1 (D (some ⟨w.heap.size,0,none⟩) 12 12) 12 ((Kd (bl s) (k+1)).map (Value.int .i64))):=⟨by rw[<-Bj (bl s) hlt,HR.out.all HCL.out];exact HOm.out⟩
      clear HR HOm;go_wp2_with fail;go_roundw
      case rel=>exact⟨k+1,by omega,by go_num,HO2,HEm⟩
      case measure=>simp[intOf];omega
   ·obtain rfl:k=12:=by omega
    have hI:Bx (ak wr.heap.size wr (D (some ⟨w.heap.size,0,none⟩) 12 12) (bY (bl s))):=⟨qq HO.out (tD HB.out) (by rw[dc];omega)⟩
    clear HO;go_wp2_with fail;go_ret2
    exact⟨_,_,_,_,rfl,HW.out.2.symm,by rw[HW.out.1];exact hI.out,HE.out⟩
 ·have HW:Bx (vk (bl s)=[]/\vd (bl s)=7):=⟨Iq hb⟩
  go_enter func100,ntmps100
  go_wp2_with fail;refine (fk _ _).mono ?_;rintro r w1 ⟨rfl,rfl⟩;rw[hb];go_wp2_with fail;go_ret2
  exact⟨_,_,_,_,rfl,HW.out.2.symm,by rw[HW.out.1];exact ak.nil _ _,zE _⟩
def Fy(l:List Int)(d:List F)(er k:Int):Prop :=
 (cD (-1) l=false->d=[]/\er=0/\k=2)/\(cD (-1) l=true->(∃(cw:List F) (n:Nat),pn l cw n/\d=cw.take (l.length-6)/\er=n/\k=0)\/((∀cw n,¬pn l cw n)/\d=[]/\er=0/\k=25))
theorem Gx{d d':List F}{er er' k k':Int}(h:Fy l d er k)(h':Fy l d' er' k'):d=d'/\er=er'/\k=k':=by
 rcases yS (cD (-1) l) with hb|hb
 ·have h15:=(ew hb).2.1;rcases h.2 hb with ⟨c,n,h1,h2,h3,h4⟩|⟨h1,h2,h3,h4⟩<;>rcases h'.2 hb with ⟨c',n',g1,g2,g3,g4⟩|⟨g1,g2,g3,g4⟩
  ·obtain⟨rfl,rfl⟩:=Ez (by omega) h1 g1;exact⟨by rw[h2,g2],by rw[h3,g3],by rw[h4,g4]⟩
  ·exact absurd h1 (g1 _ _)
  ·exact absurd g1 (h1 _ _)
  ·exact⟨by rw[h2,g2],by rw[h3,g3],by rw[h4,g4]⟩
 ·obtain⟨h2,h3,h4⟩:=h.1 hb;obtain⟨g2,g3,g4⟩:=h'.1 hb;exact⟨by rw[h2,g2],by rw[h3,g3],by rw[h4,g4]⟩
end Go.Proofs.YtpaidaphacoblaaGreatDoor

