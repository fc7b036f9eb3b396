import Derived.Shelf.SortG.Plain
import Derived.Shelf.SortG.SortNone
import Derived.Shelf.SlicesG.CompactI
import Derived.Lib.SlicesCompact
import Derived.Laws.Shifts
import Derived.Sort.OwnSortedInts
import Derived.Test.YtpaidaphacoblaaGreatDoorK33
set_option linter.all false
set_option maxRecDepth 100000
set_option maxHeartbeats 0
namespace Go.Proofs.YtpaidaphacoblaaGreatDoor
open Go.Value renaming int→B,slice→D
open Go.IntKind renaming i64→C
open Go.RowKit
variable {k n:Nat} {x:Int}
section
variable {l:List aj} {cls:List Int} {i k c c':Nat}
def eM(l:List aj)(out:List Int):List aj:=out.filterMap fun x=>l[x.toNat]?
theorem D9{sts:List bN}{out:List Int}(h:eQ sts cls n out):out.length<=n:=by rw[h.perm.length_eq];unfold kh;rw[zJ];exact yR (uP _ _) (by simp)
end
theorem Gh{α:Type}[DecidableEq α](lt:α->α->Bool)(l:List α):(CS lt l).length<=l.length:=by
 induction l using ic with
 |h0=>exact zX _
 |h1 l x ih =>
  rw[oJ,yU];unfold Fp;split
  ·simp;omega
  ·rw[FT];simp;omega
theorem Bd(l:List aj):(ay l).length<=l.length:=by have h1:=Gh rV (l.filter (qC l));have h2:=uP (qC l) l;unfold ay;omega
theorem FQ{s:List UInt8}{x:cJ}(h:dR s=some x):x.wf:=by
 unfold dR at h;split at h
 ·rename_i hx
  injection h with h;obtain⟨m,hm⟩:=hx.choose_spec;rw[h]at hm;by_cases hu:iM s=0
  ·obtain⟨d,er,kk,-,h2,h3⟩:=hm.2 hu;by_cases hk:kk=0
   ·by_cases hc:fK d<=9999
    ·obtain⟨e1,e2,e3,e4,-⟩:=(h3 hk).2 hc;have b0:=fT d 0;have b1:=fT d 1;have b2:=fT d 2;have b3:=fT d 3;have b4:=fT d 4;have b5:=fT d 5;unfold fK at e2;refine⟨⟨?_,?_⟩,⟨?_,?_⟩,⟨?_,?_⟩,⟨?_,?_⟩⟩<;>omega
    ·have:=((h3 hk).1 (by omega)).2.2.2.2.2;omega
   ·have:=(h2 hk).2.2.2.2.2;omega
  ·have:=(hm.1 hu).2.2.2.2.2;omega
 ·cases h
theorem kL:cJ.zero.wf:=⟨⟨by decide,by decide⟩,⟨by decide,by decide⟩,⟨by decide,by decide⟩,⟨by decide,by decide⟩⟩
theorem jo{l:List aj}{id:gT}{x:cJ}{st:Int}(hl:∀c∈l,c.wf)(h:aQ l id=(x,st)):x.wf:=by
 have hz:cJ.zero.wf:=kL;unfold aQ iI at h;split at h
 ·injection h with h;subst h;exact hz
 ·split at h
  ·rename_i d hd
   split at h
   ·injection h with h;subst h;exact hz
   ·injection h with h;subst h;exact (hl d (xR.1 (List.mem_of_getLast? hd)).1).2.2.2.2.2.1
  ·split at h
   ·rename_i y hy
    injection h with h;subst h;exact FQ hy
   ·injection h with h;subst h;exact hz
theorem gj{s:dl}{l:List aj}{c:aj}{lab:cJ}{st:Int}(hk:c.kind=1)(h:aQ l c.id=(lab,st)):aM s l c=⟨c,lab,if st=0 then (if bH s lab c.ch then 0 else 5) else st,decide (st=0)&&bH s lab c.ch⟩:=by unfold aM;rw[if_pos hk,h]
theorem sU{s:dl}{l:List aj}{c:aj}(hk:c.kind≠1):aM s l c=⟨c,cJ.zero,0,false⟩:=by unfold aM;rw[if_neg hk]
section
variable {R:List dH} {s:dl} {l:List aj} {k n i:Nat} {x:dH} {cL cS cF:Array Value}
theorem Bb(hx:R[k]?=some x)(h:x.cap.kind≠1):aZ R (k+1)=aZ R k:=by rw[kC];unfold ry;rw[hx];simp[h]
theorem xh(hx:R[k]?=some x)(h:x.cap.kind=1):aZ R (k+1)=aZ R k++[lN R k x]:=by rw[kC];unfold ry;rw[hx];simp[h]
theorem kG(hx:R[k]?=some x)(h:¬(x.cap.kind=1/\cR R k x=1)):bW R (k+1)=bW R k:=by rw[jO];unfold Pm;rw[hx];simp only[uL];rw[if_neg h];simp
theorem ws(hx:R[k]?=some x)(h:x.cap.kind=1)(h2:cR R k x=1):bW R (k+1)=bW R k++[Gs x]:=by rw[jO];unfold Pm;rw[hx];simp only[uL];rw[if_pos ⟨h,h2⟩];rfl
theorem rq(R:List dH)(k:Nat):(bE bU (aZ R k)).length<=k:=by rw[(fX _).length_eq];have:=uV (ry R) (List.range k);rw[wQ]at this;exact this
theorem tl(R:List dH)(k:Nat):(bE dW (bW R k)).length<=k:=by rw[(fX _).length_eq];have:=uV (Pm R) (List.range k);rw[wQ]at this;exact this
end
theorem ND{code var:Int}{ps:List av}{pgs:List (List Int)}(h:jH code var ps pgs=true):1<=pgs.length/\pgs.length<=12:=by
 refine⟨?_,(J0 h).2.1⟩;have h1:=Nb h;have h2:1<=ps.length:=by have:=(J0 h).1;unfold fD at this;simp only[yT,decide_eq_true_eq]at this;omega
 rcases pgs with _|⟨a,l⟩
 ·have:=M6 ([]:List (List Int));simp only[List.length_nil]at h1;omega
 ·simp
open _root_.Go.Proofs.Tryz
theorem Pr(n:Nat)(w:World)(hn:n<=24) :
  Calls prog 158 #[.int .u64 1,.int .u64 n] w fun e w'=>e=.returned (.tuple #[.int .u64 0,.int .u64 n])/\w=w':=by
 have h:n=0\/n=1\/n=2\/n=3\/n=4\/n=5\/n=6\/n=7\/n=8\/n=9\/n=10\/n=11\/n=12\/n=13\/n=14\/n=15\/n=16\/n=17\/n=18\/n=19\/n=20\/n=21\/n=22\/n=23\/n=24:=by omega
 clear hn;rcases h with rfl|rfl|rfl|rfl|rfl|rfl|rfl|rfl|rfl|rfl|rfl|rfl|rfl|rfl|rfl|rfl|rfl|rfl|rfl|rfl|rfl|rfl|rfl|rfl|rfl;all_goals
  go_enter func158,ntmps158
  go_wp2
  go_ret2
  exact⟨rfl,rfl⟩
theorem N0(n:Nat)(w:World)(hn:n<=24) :
  Calls prog 123 #[.int .u64 1,.int .u64 n] w fun e w'=>e=.returned (.tuple #[.int .u64 0,.int .u64 n])/\w=w':=by
 go_enter func123,ntmps123
 go_wp2_with (go_at_call 158;refine (Pr n _ hn).mono ?_;rintro e w' ⟨rfl,rfl⟩);go_ret2
 exact⟨rfl,rfl⟩
def rp(x:Int)(n k:Nat):List Value:=List.replicate k (B C x)++List.replicate (n-k) (B C 0)
theorem P1(h:k<=n):(rp x n k).length=n:=by simp[rp];omega
theorem Nx{m:Nat}(h:k+m<=n):splice (rp x n k) k (List.replicate m (B C x))=rp x n (k+m):=by
 unfold splice rp;rw[List.take_left' (by simp),uD,List.drop_append,List.drop_eq_nil_of_le (by simp),uD,List.nil_append,List.drop_replicate,<-xY,List.replicate_append_replicate];congr 2
 omega
theorem Qv{j:Nat}(h:j<k):(rp x n k)[j]?=some (B C x):=by unfold rp;rw[yY (by simpa using h)];simp[h]
theorem O3(n:Nat):madeCells #[B C 0] n=(rp 0 n 0).toArray:=by
 apply Array.ext
 ·simp[size_madeCells,rp]
 ·intro i h1 h2;simp[madeCells,rp,Nat.mod_one]
theorem Qi(x y:Int)(n:Nat):rp x n 0=rp y n 0:=by simp[rp]
theorem Ng(b o c n:Nat)(x:Int)(w:World)(hn:n<=24)(hc:w.cell? ⟨b,o,none⟩=some (B C x))(hc1:1<=c)(hc2:c<=9223372036854775807) :
  Calls prog 82 #[D (some ⟨b,o,none⟩) 1 c,B C n] w fun e w'=>∃v,e=.returned v/\w'.ownsRow w.heap.size 3 1 v n ((List.replicate n x).map (Value.int .i64))/\ab w w':=by
 obtain⟨i0,hi0,hz0,hz1,hz2⟩:=info_parts Tryz.infoI;have hsz:(prog.info? 3).map (·.size)=some 1:=by kernel_rfl
 have hmk:(Instr.makeSlice 22 (B C (n:Int)) (B C (n:Int))).run prog w=.ok (D (some ⟨w.heap.size,0,none⟩) n n) (w.alloc (.cells (rp x n 0).toArray 3)):=by have:=run_make (P:=prog) w 22 3 i0 _ underlying22 hi0 hz0 .i64 .i64 (n:Int) (n:Int) (by omega) (by omega) (by rw[hz2];omega) (by omega);rw[this,hz1];simp only[yC,wH,Value.cells];rw[O3,Qi 0 x]
 have hd1:decide ((n:Int)<0)=false:=by simp
 have hd2:decide ((9223372036854775807:Int)<(n:Int))=false:=by simp;omega
 have HC:=zZ (ab.cell ((zE w).alloc (.cells (rp x n 0).toArray 3)) hc);have HG0:=zZ (heap_alloc_new w (.cells (rp x n 0).toArray 3));have HE0:=zZ ((zE w).alloc (.cells (rp x n 0).toArray 3));generalize hcur:rp x n 0=cur at hmk HC HG0 HE0;have HCU:=zZ hcur;clear hcur hz0;go_enter func82,ntmps82
 have hm1:Nat.min 1 n<=n:=Nat.min_le_right _ _;have hm2:Nat.min 1 n<=1:=Nat.min_le_left _ _;generalize hm:Nat.min 1 n=m at hm1 hm2;have HM:=zZ hm;clear hm;go_wp2_with (first
  |(go_at_call 123;refine (N0 n _ hn).mono ?_;rintro e w' ⟨rfl,rfl⟩)
  |(refine wpList_copy_splice rfl (.tmp 31) (.tmp 32) 22 22 rfl 3 underlying22 hsz (some ⟨w.heap.size,0,none⟩) (some ⟨b,o,none⟩) n n 1 c rfl rfl w.heap.size 0 cur 3 HG0.out (List.replicate m (B C x)) (by rw[HM.out];simp) (fun _=>⟨rfl,_,rfl,fun j v hj=>by obtain⟨h1,h2⟩:=zY.1 hj;simp at h1 h2;subst h2;obtain rfl:j=0:=(by omega);exact HC.out⟩) (by rw[<-HCU.out,P1 (by omega)];simp;exact hm1) (by simp[Value.oneCell']) w.heap.size w HE0.out (zX _) ?_;intro w2 hg2 hb2))
 have hg2':Hid (w2.heap[w.heap.size]?=some (.cells (rp x n m).toArray 3 (0,0))):=by have:=hg2.out;rw[<-HCU.out,Nx (k:=0) (by omega),yV]at this;exact this
 have hb2':Hid (ab w w2):=hb2;clear hg2 hb2 HG0 HE0 HC hmk hc;have hmn:m=n\/0<m:=by have h1:=HM.out;have h2:Nat.min 1 n=min 1 n:=rfl;omega
 go_loopw [8] (fun s8 wr=>∃k:Nat,s8=B C k/\k<=n/\(k=n\/0<k)/\Hid (wr.heap[w.heap.size]?=some (.cells (rp x n k).toArray 3 (0,0))/\ab w wr)) (fun i _=>n-(intOf i).toNat)
 case atStart=>exact⟨m,rfl,hm1,hmn,hg2'.out,hb2'.out⟩
 case round =>
  obtain⟨k,rfl,hk,hk0,HR⟩:=hrel;clear hg2' hb2';by_cases hkn:k<n
  ·have hkp:0<k:=by omega
   clear hk0;have hd5:(0:Int)<=(k:Int):=by omega
   have hd6:(k:Int)<=(n:Int):=by omega
   have hd7:¬n=k:=by omega
   have hq1:Nat.min k (n-k)<=n-k:=Nat.min_le_right _ _;have hq2:Nat.min k (n-k)<=k:=Nat.min_le_left _ _;have hq3:0<Nat.min k (n-k):=by have:Nat.min k (n-k)=min k (n-k):=rfl;omega
   generalize hq:Nat.min k (n-k)=q at hq1 hq2 hq3;have HQ:=zZ hq;clear hq;have hwr:IntKind.i64.wrap ((k:Int)+(q:Int))=(k:Int)+(q:Int):=yN _ (by omega);go_wp2_with fail;have hS:(fun _:World=>True) wr.drew:=trivial;refine zR 99 (fun _=>True) ?_;refine zS 7 [(0,38),(1,39),(2,40),(3,41),(4,42),(5,43),(6,44)] trivial ?_;iterate 7 refine zT ?_
   refine zN (zO 7 (fun K hK=>?_));refine step_copy_splice rfl (.tmp 41) (.tmp 44) 22 22 rfl 3 underlying22 hsz (some ⟨w.heap.size,k,none⟩) (some ⟨w.heap.size,0,none⟩) (n-k) (n-k) k n rfl rfl w.heap.size k (rp x n k) 3 HR.out.1 (List.replicate q (B C x)) (by rw[HQ.out];simp) (fun _=>⟨rfl,_,rfl,fun j v hj=>?_⟩) (by rw[P1 hk];simp;omega) (by simp[Value.oneCell']) w.heap.size w HR.out.2.drew (zX _) ?_
   ·obtain⟨h1,h2⟩:=zY.1 hj;simp at h1 h2;subst h2;rw[fa,yV];exact (cell_of_row wr.drew w.heap.size j _ 3 (0,0) HR.out.1).trans (by simpa using Qv (x:=x) (n:=n) (show j<k by omega))
   intro w3 hg3 hb3;refine hK.out _ _ (fun _=>trivial) ?_;clear hK K;try simp only[kA]
   refine zS 1 [(8,46)] trivial ?_;refine zT ?_;refine zN (zO 9 (fun K hK=>?_));go_simp;refine hK.out _ _ (fun _=>trivial) ?_;clear hK K;try simp only[kA]
   refine zD ?_;have HG3:Hid (w3.heap[w.heap.size]?=some (.cells (rp x n (k+q)).toArray 3 (0,0))):=by have:=hg3.out;rw[Nx (by omega)]at this;exact this
   have HE3:Hid (ab w w3):=hb3;clear hg3 hb3 hwr hS;go_wp2_with fail;go_roundw
   case rel=>exact⟨k+q,by simp,by omega,by omega,HG3.out,HE3.out⟩
   case measure=>simp[intOf];omega
  ·obtain rfl:k=n:=by omega
   go_wp2_with fail;go_ret
   refine⟨_,rfl,⟨by simp,.inr ⟨w.heap.size,k,_,rfl,zX _,HR.out.1,zX _,by unfold maxLen;omega,by simp[rp],?_⟩⟩,HR.out.2⟩;simp[rp]
def Nw(w:World)(code var:Int)(sv bv:Value)(d f ld:Int)(wx:World):Prop :=
 (wx.cell? ⟨w.heap.size,0,none⟩=some (B C code)/\wx.cell? ⟨w.heap.size,1,none⟩=some (B C var)/\wx.cell? ⟨w.heap.size,2,none⟩=some sv)/\wx.cell? ⟨w.heap.size+1,0,none⟩=some bv /\
 wx.cell? ⟨w.heap.size+1+1,0,none⟩=some (B C d)/\wx.cell? ⟨w.heap.size+1+1,1,none⟩=some (B C f)/\wx.cell? ⟨w.heap.size+1+1,2,none⟩=some (B C ld)
theorem Nw.ext{w wx w':World}{code var d f ld:Int}{sv bv:Value}(h:Nw w code var sv bv d f ld wx)(hx:ab wx w'):Nw w code var sv bv d f ld w' :=
 ⟨⟨hx.cell h.1.1,hx.cell h.1.2.1,hx.cell h.1.2.2⟩,hx.cell h.2.1,hx.cell h.2.2.1,hx.cell h.2.2.2.1,hx.cell h.2.2.2.2⟩
theorem Nw.start(w:World)(code var d f ld:Int)(sv bv:Value)(t1 t2 t3:TypeId) :
  Nw w code var sv bv d f ld (((w.alloc (.cells #[B C code,B C var,sv] t1)).alloc (.cells #[bv] t2)).alloc (.cells #[B C d,B C f,B C ld] t3)):=by
 obtain⟨h1,h2,h3,h4⟩:=pJ (w:=w) (o:=.cells #[B C code,B C var,sv] t1) (o':=.cells #[bv] t2) rfl rfl ((zE _).alloc (.cells #[B C d,B C f,B C ld] t3));have h5:=Hd (heap_alloc_new ((w.alloc (.cells #[B C code,B C var,sv] t1)).alloc (.cells #[bv] t2)) (.cells #[B C d,B C f,B C ld] t3));exact⟨⟨h1,h2,h3⟩,h4,by simpa using h5⟩
def wF(p:Nat)(w:World)(l:List Int)(er:Int)(e:Ending)(w':World):Prop:=∃v,e=.returned (.tuple #[v,B C er])/\ak p w' v l/\ab w w'
theorem wF.mk0{p:Nat}{w w':World}{l:List Int}{er k:Int}(h:[]=l/\k=er)(hE:ab w w'):wF p w l er (.returned (.tuple #[D none 0 0,B C k])) w':=by obtain⟨rfl,rfl⟩:=h;exact⟨_,rfl,ak.nil _ _,hE⟩
theorem Oj:∀(G:List (Nat×Nat)),Q8 n G->(j3 G).length<=5*G.length:=by
 intro G;induction G with
 |nil=>simp[j3]
 |cons g G ih =>
  intro h;have:=ih ⟨(xK.1 h.1).2,fun x hx=>h.2 x (by simp[hx])⟩;have:=(h.2 g (by simp)).2.2;rw[dS,yU,gz];simp;omega
theorem PB(code var d f ld page:Int)(v vb vc:Value)(ps:List av)(pgs:List (List Int))(cs:List Int)(w:World){p:Nat}(hp:p<w.heap.size)(h:oa p w v ps)(hb:oc p w vb pgs)(hc:ak p w vc cs)(hpg:aU page) :
  Calls prog 83 #[.agg #[B C code,B C var,v],.agg #[vb],.agg #[B C d,B C f,B C ld],B C page,vc] w (wF p w (d9 code var ps pgs d f ld page cs) (Mg code var ps pgs d f ld page cs)):=by
 obtain⟨A,n,c,rfl,hnc,hcc,hnn,HL⟩:=h.open_;obtain⟨Ab,m,cb,rfl,hmc,hcb,hmm,HM⟩:=hb.open_;obtain⟨Ac,nc,ccc,rfl,hncc,hccc,hnnc,HC⟩:=hc.open_;have HE:Hid (ab w (((w.alloc (.cells #[B C code,B C var,D A n c] 64)).alloc (.cells #[D Ab m cb] 61)).alloc (.cells #[B C d,B C f,B C ld] 53))):=(((zE _).alloc _).alloc _).alloc _;have HB:=zZ (Nw.start w code var d f ld (D A n c) (D Ab m cb) 64 61 53);have HQ:=zZ (h.ext (bC.stab p) HE.out);have HP:=zZ (hb.ext (RI.stab p) HE.out);have HI:=zZ (hc.ext HE.out);have hpw:=zB hp HE.out.size;have HPG:=zZ hpg;clear h hb hc hpg;go_enter func83,ntmps83
 go_upto_region 1 with (fail)
 generalize hW:((w.alloc (.cells #[B C code,B C var,D A n c] 64)).alloc (.cells #[D Ab m cb] 61)).alloc (.cells #[B C d,B C f,B C ld] 53)=W at *
 clear hW;go_cut [34] (fun s34 wx=>∃b:Bool,s34=.bool b/\Hid ((b=false↔j5 d f ld=true/\jH code var ps pgs=true)/\ab W wx))
 case first =>
  obtain⟨⟨b0,b1,b2⟩,b3,b4,b5,b6⟩:=HB.out;go_wp2_with fail;refine (kP _ _ _ ps _ HQ.out).mono ?_;rintro e w1 ⟨rfl,hx1⟩;cases hv:fD code var ps with
  |false =>
   have hnb:jH code var ps pgs=false:=dE fun x=>by have:=x.1;rw[hv]at this;cases this
   replace hv:=zZ hv;replace hnb:=zZ hnb;go_wp2_with fail;go_meet
   exact⟨true,rfl,by simp[hnb.out],hx1⟩
  |true =>
   replace hv:=zZ hv;replace HB:=zZ (HB.out.ext hx1);have HE1:=zZ hx1;clear b0 b1 b2 b3 b4 b5 b6 hx1;obtain⟨⟨b0,b1,b2⟩,b3,b4,b5,b6⟩:=HB.out;go_wp2_with fail;refine (uk _ _ _ _).mono ?_;rintro e w2 ⟨rfl,hx2⟩;replace HE1:=zZ (HE1.out.trans hx2);replace HB:=zZ (HB.out.ext hx2);clear b0 b1 b2 b3 b4 b5 b6 hx2;cases ht:j5 d f ld with
   |false =>
    replace ht:=zZ ht;go_wp2_with fail;go_meet
    exact⟨true,rfl,by simp[ht.out],HE1.out⟩
   |true =>
    replace ht:=zZ ht;obtain⟨⟨b0,b1,b2⟩,b3,b4,b5,b6⟩:=HB.out;go_wp2_with fail;refine (kY _ _ _ _ ps pgs _ (HQ.out.ext (bC.stab p) HE1.out) (HP.out.ext (RI.stab p) HE1.out)).mono ?_;rintro e w3 ⟨rfl,hx3⟩;go_wp2_with fail;go_meet
    exact⟨!jH code var ps pgs,rfl,by simp[ht.out],HE1.out.trans hx3⟩
 case rest =>
 obtain⟨b,rfl,HR⟩:=hcut;have HT:=zZ HR.out.1;replace HB:=zZ (HB.out.ext HR.out.2);replace HQ:=zZ ((HQ.out.ext (bC.stab p) HR.out.2));replace HP:=zZ ((HP.out.ext (RI.stab p) HR.out.2));replace HI:=zZ (HI.out.ext HR.out.2);replace HE:=zZ (HE.out.trans HR.out.2);replace hpw:=zB hpw HR.out.2.size;clear HR;cases b;case true =>have H1:=zZ (Q2 (code:=code) (var:=var) (ps:=ps) (pgs:=pgs) (d:=d) (f:=f) (ld:=ld) (page:=page) (cs:=cs) (fun x=>by have:=HT.out.2 x;cases this));go_wp2_with fail;exact bodyPost_ret (v:=.tuple #[D none 0 0,B C 1]) (by simp[results,results83,go_sem]) rfl (wF.mk0 H1.out HE.out)
 have HV:=zZ (HT.out.1 rfl);clear HT;obtain⟨⟨b0,b1,b2⟩,b3,b4,b5,b6⟩:=HB.out;by_cases hin:0<=page/\page<m;case neg =>
  have H4:=zZ (QO (page:=page) (cs:=cs) HV.out (by rw[HM.out];exact hin));have hin':page<0\/(m:Int)<=page:=by omega
  clear hin;by_cases hneg:page<0
  ·clear hin';go_wp2_with fail;exact bodyPost_ret (v:=.tuple #[D none 0 0,B C 4]) (by simp[results,results83,go_sem]) rfl (wF.mk0 H4.out HE.out)
  ·have hge:(m:Int)<=page:=by omega
   clear hin';go_wp2_with fail;exact bodyPost_ret (v:=.tuple #[D none 0 0,B C 4]) (by simp[results,results83,go_sem]) rfl (wF.mk0 H4.out HE.out)
 have HIN:Hid (0<=page/\page<pgs.length):=by show _/\_;rw[HM.out];exact hin
 obtain⟨hi0,hi1⟩:=hin;go_wp2_with fail;refine (Db _ _ _ _ _ ps pgs _ hpw HQ.out HP.out HPG.out).mono ?_;rintro e w4 ⟨vf,rfl,hF,hx4⟩;obtain⟨Af,nf,cf,rfl,hncf,hcf,hnnf,HLF⟩:=hF.open_;replace hF:=zZ hF;replace HB:=zZ (HB.out.ext hx4);replace HQ:=zZ ((HQ.out.ext (bC.stab p) hx4));replace HI:=zZ (HI.out.ext hx4);replace HE:=zZ (HE.out.trans hx4);replace hpw:=zB hpw hx4.size;clear b0 b1 b2 b3 b4 b5 b6 hx4 HP;by_cases hlen:nc=nf;case neg =>
  have H22:=zZ (QJ (cs:=cs) HV.out HIN.out (by rw[HC.out,HLF.out];exact hlen));have hne:((nc:Int)!=nf)=true:=by simp;omega
  clear hlen;go_wp2_with fail;exact bodyPost_ret (v:=.tuple #[D none 0 0,B C 22]) (by simp[results,results83,go_sem]) rfl (wF.mk0 H22.out HE.out)
 subst hlen;have HLN:Hid (cs.length=(dr code var ps pgs page).length):=by show _=_;rw[HC.out,HLF.out]
 have hnn0:((nc:Int)!=nc)=false:=by simp
 go_wp2_with fail;refine (BS _ cs _ HI.out).mono ?_;rintro e w' ⟨rfl,rfl⟩;cases hall:cs.all fE with
 |false =>
  have H2:=zZ (Q5 HV.out HIN.out HLN.out hall);replace hall:=zZ hall;go_wp2_with fail;exact bodyPost_ret (v:=.tuple #[D none 0 0,B C 2]) (by simp[results,results83,go_sem]) rfl (wF.mk0 H2.out HE.out)
 |true =>
 have H0:=zZ (PO HV.out HIN.out HLN.out hall);replace hall:=zZ hall;obtain⟨j,rfl⟩:=zG hi0;have hjm:j<m:=by omega
 obtain⟨pg,hpgj⟩:∃pg,pgs[j]?=some pg:=⟨_,zV (by have:=HM.out;omega)⟩
 have HFI:=zZ (gn HV.out.2 hpgj);have HGO:=zZ (Pd HV.out.2 hpgj);have HFG:Hid (dr code var ps pgs (j:Int)=j3 (KW ps pg)):=by show _=_;rw[HFI.out];exact NY ps pg HGO.out.2
 have hps:=(mD (J0 HV.out.2).1)
 have hn24:n<=24:=by have:=hps.2.2.2.2.2.1;have:=HL.out;omega
 have hn1:1<=n:=by have:=hps.2.2.2.2.1;have:=HL.out;omega
 clear hps;have hnc120:nc<=1000:=by have h1:=HLF.out;rw[HFG.out]at h1;have h2:=Oj _ HGO.out.1;have h3:(KW ps pg).length<=pg.length:=uV _ _;have h4:=(jL HV.out.2 hpgj).1;omega
 clear hpgj;go_wp2_with fail;refine (OW _ _ _ cs _ hpw hF.out HI.out (by have:=HC.out;omega)).mono ?_;rintro e w5 ⟨vr,rs,er,rfl,hPr,hx5,hr1,hr2⟩;obtain⟨hrs,rfl⟩:=hr2 HLN.out.symm;obtain⟨Ar,nr,cr,rfl,hncr,hcr,hnnr,HLR⟩:=hPr.open_;have HRS:Hid (rs=uq (KW ps pg) cs):=by
  show _=_
  rw[hrs];exact PN HLN.out.symm HGO.out.1.1 (fun g hg=>(HGO.out.1.2 g hg).2.1) HFG.out
 replace hPr:=zZ hPr;replace HB:=zZ (HB.out.ext hx5);replace HE:=zZ (HE.out.trans hx5);replace hF:=zZ ((hF.out.ext (Ko.stab p) hx5));replace hpw:=zB hpw hx5.size;clear hr1 hr2 hrs hx5 HI;obtain⟨⟨b0,b1,b2⟩,b3,b4,b5,b6⟩:=HB.out;have ba:∀o,(w5.alloc o).cell? ⟨w.heap.size,2,none⟩=some (D A n c):=fun o=>ab.cell ((zE _).alloc o) b2;have HE5:=zZ ((zE w5).alloc (.cells #[B C (-1)] 3));go_wp2_with fail;refine (Ng w5.heap.size 0 1 n (-1) _ hn24 (ac (heap_alloc_new w5 (.cells #[B C (-1)] 3)) (i:=0) rfl) (by omega) (by omega)).mono ?_;rintro e w6 ⟨va,rfl,hown,hx6⟩;obtain⟨g,cap,rfl,hgb,hgl⟩:=di hown (by omega);have hx56:=zZ (HE5.out.trans hx6);have HOWN:=zZ (cd hown (base':=w5.heap.size) (by simp));have hgw:w5.heap.size<=g:=by simp at hgb;omega
 have hpg:p<w5.heap.size:=hpw;clear b0 b1 b2 b3 b4 b5 b6 ba hown hx6 HE5 hgb hgl HQ;have HANS:Hid (NL (gJ d f ld) (KW ps pg) cs (List.replicate n (-1))=d9 code var ps pgs d f ld (j:Int) cs):=by
  show _=_
  rw[<-H0.out.1,HFG.out,<-HL.out];exact Qp HGO.out.1 (by rw[<-HFG.out];exact HLN.out.symm)
 go_wp2_with fail;go_loopw [16,72] (fun s16 s72 wr=>∃(r nx:Nat) (G':List (Nat×Nat)) (cs' acc:List Int),s16=B C nx/\s72=B C r/\r<=nr/\nx<=nc /\
   Hid (rs.drop r=uq G' cs'/\(dr code var ps pgs (j:Int)).drop nx=j3 G'/\Q8 n G'/\(j3 G').length=cs'.length/\cs'.all fE=true/\NL (gJ d f ld) G' cs' acc=d9 code var ps pgs d f ld (j:Int) cs/\acc.length=n/\wr.ownsRow w5.heap.size 3 1 (D (some ⟨g,0,none⟩) n cap) n (acc.map (Value.int .i64))/\ab w5 wr)) (fun _ i _=>nr-(intOf i).toNat)
 case atStart=>exact⟨0,0,KW ps pg,cs,List.replicate n (-1),rfl,rfl,by omega,by omega,by simpa using HRS.out,by simpa using HFG.out,by have:=HGO.out.1;rw[HL.out]at this;exact this,by rw[<-HFG.out];exact HLN.out.symm,hall.out,HANS.out,by simp,HOWN.out,hx56.out⟩
 case round =>
  obtain⟨r,nx,G',cs',acc,rfl,rfl,hr,hnx,HR⟩:=hrel;clear HOWN hx56 HRS HANS HFI HGO;obtain⟨q1,q2,q3,q4,q5,q6,q7,q8,q9⟩:=HR.out;by_cases hrn:r<nr
  ·cases G' with
   |nil =>
    exfalso;have:=congrArg List.length q1;have:=HLR.out;simp[uq]at *;omega
   |cons gg G'' =>
   have hgo:=q3.2 gg (by simp);have hlg:gg.2<=cs'.length:=by rw[dS,yU,gz]at q4;omega
   have hrun:rs[r]?=some (cs'.take gg.2):=by have:=congrArg (fun l=>l[0]?) q1;simpa[uq] using this
   have hfld:(dr code var ps pgs (j:Int))[nx]?=some ⟨(gg.1:Int),0⟩:=by
    have h0:((dr code var ps pgs (j:Int)).drop nx)[0]?=some ⟨(gg.1:Int),0⟩:=by rw[q2,dS,yY (by rw[gz];omega)];unfold Qs;rw[zP,wJ (by omega)];rfl
    rw[vR]at h0;simpa using h0
   have hnxl:nx<nc:=by have:=(zY.1 hfld).1;have:=HLF.out;omega
   have hnxs:nx+gg.2<=nc:=by have h1:=congrArg List.length q2;rw[dS,yU,gz,wD]at h1;have:=HLF.out;omega
   obtain⟨br,or,cs0,l0,rfl,_⟩:=hPr.out.at_ hrn;obtain⟨bf,of,cs1,z1,rfl,_⟩:=hF.out.at_ hnxl;obtain⟨u,l,hcu,hIu,HX⟩:=(hPr.out.ext (RI.stab p) q9).page hrn;obtain rfl:l=cs'.take gg.2:=by have:=HX.out;rw[hrun]at this;exact (xF this).symm
   have htl:(cs'.take gg.2).length=gg.2:=by rw[yW];omega
   obtain⟨Au,nu,cu,rfl,_,_,_,HLu⟩:=hIu.open_;obtain rfl:nu=gg.2:=by rw[<-HLu.out,htl]
   have htv:(cs'.take gg.2).all fE=true:=by rw[xS]at *;exact fun x hx=>q5 x (uI hx)
   have hje:=QL (d:=d) (f:=f) (lead:=ld) HV.out.1 htl hgo.2.1 hgo.2.2 htv;have hjb:=Nt d f ld (cs'.take gg.2);have HNEXT:Hid (NL (gJ d f ld) G'' (cs'.drop gg.2) (acc.set gg.1 (gJ d f ld (cs'.take gg.2)))=d9 code var ps pgs d f ld (j:Int) cs):=q6;have hdv:(cs'.drop gg.2).all fE=true:=by rw[xS]at *;exact fun x hx=>q5 x (List.mem_of_mem_drop hx)
   have hd1:rs.drop (r+1)=uq G'' (cs'.drop gg.2):=by rw[<-List.drop_drop,q1];rfl
   have hd2:(dr code var ps pgs (j:Int)).drop (nx+gg.2)=j3 G'':=by rw[<-List.drop_drop,q2,dS,List.drop_append,List.drop_eq_nil_of_le (by rw[gz];omega),gz];simp
   have hd4:(j3 G'').length=(cs'.drop gg.2).length:=by rw[dS,yU,gz]at q4;rw[wD];omega
   have hg3:Q8 n G'':=⟨(xK.1 q3.1).2,fun x hx=>q3.2 x (by simp[hx])⟩
   obtain⟨hgn,hg2,hg5⟩:=hgo;generalize hjv:gJ d f ld (cs'.take gg.2)=jv at *
   replace q7:=zZ q7;replace q8:=zZ q8;replace q9:=zZ q9;replace hje:=zZ hje;replace hrun:=zZ hrun;replace hfld:=zZ hfld;replace htl:=zZ htl;replace hIu:=zZ hIu;replace HNEXT:=zZ HNEXT;replace hdv:=zZ hdv;replace hd1:=zZ hd1;replace hd2:=zZ hd2;replace hd4:=zZ hd4;replace hg3:=zZ hg3;replace hjv:=zZ hjv;replace htv:=zZ htv;clear q1 q2 q3 q4 q5 q6 HR hlg;obtain⟨⟨b0,b1,b2⟩,b3,b4,b5,b6⟩:=HB.out.ext q9.out;go_wp2_with fail;refine (Pj _ _ _ _ (cs'.take gg.2) _ hIu.out).mono ?_;rintro e x1 ⟨rfl,hx1⟩;rw[<-hje.out,hjv.out];replace q9:=zZ (q9.out.trans hx1);replace q8:=zZ (ao q8.out hx1);obtain⟨q,cq,_,HQ,_,_⟩:=(hF.out.ext (Ko.stab p) q9.out).fld hnxl;obtain rfl:q=⟨(gg.1:Int),0⟩:=by have:=HQ.out;rw[hfld.out]at this;exact (xF this).symm
   simp only at cq;obtain⟨y,hcy⟩:∃y,x1.cell? ⟨g,gg.1,none⟩=some y:=by have:=q8.out.cellAt gg.1 (by omega);exact⟨_,this.trans (zV (by have:=q7.out;simp;omega))⟩
   have hfy:=q8.out.frozenAt gg.1;have HS:=zZ (ug (k:=gg.1) (x:=jv) q8.out);have HE9:=zZ (q9.out.setCell (p:=⟨g,gg.1,none⟩) hgw (B C jv));have hzz:((0:Int)!=0)=false:=rfl;clear b0 b1 b2 b3 b4 b5 b6 hx1 HQ HX hcu;go_wp2_with fail;go_roundw
   case rel=>exact⟨r+1,nx+gg.2,G'',cs'.drop gg.2,acc.set gg.1 jv,by go_num,by go_num,by omega,by omega,hd1.out,hd2.out,hg3.out,hd4.out,hdv.out,HNEXT.out,by have:=q7.out;simp;omega,HS.out,HE9.out⟩
   case measure=>simp[intOf];omega
  ·obtain rfl:r=nr:=by omega
   have hG:G'=[]:=by
    cases G' with
    |nil=>rfl
    |cons gg G'' =>
     exfalso;rw[uF (by have:=HLR.out;omega)]at q1;simp[uq]at q1
   subst hG;have hacc:acc=d9 code var ps pgs d f ld (j:Int) cs:=q6;have hI9:ak p wr (D (some ⟨g,0,none⟩) n cap) acc:=ak.of_own q8 hpg (by rw[hacc,<-H0.out.1];exact N3 _ _ _) (by omega);replace q9:=zZ q9;replace hacc:=zZ hacc;replace hI9:=zZ hI9;clear q1 q2 q3 q4 q5 q6 q7 q8 HR;go_wp2_with fail;refine bodyPost_ret (v:=.tuple #[D (some ⟨g,0,none⟩) n cap,B C 0]) (by simp[results,results83,go_sem]) rfl ⟨_,by rw[<-H0.out.2],by rw[<-hacc.out];exact hI9.out,HE.out.trans q9.out⟩
end Go.Proofs.YtpaidaphacoblaaGreatDoor

