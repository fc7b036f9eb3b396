import Derived.Test.YtjgfgdcaocbfhaaGreatScI
set_option linter.all false
set_option maxRecDepth 100000
set_option maxHeartbeats 0
namespace Go.Proofs.YtjgfgdcaocbfhaaGreat
open Go.Value renaming int→B,slice→D
open Go.IntKind renaming i64→C
open Go.RowKit
variable {k n p:Nat} {w:World} {d f ld x:Int}
theorem bg.re{α:Type}{q size:Nat}{R R':World→List Value→α→Prop}{v:Value}{xs:List α}(h:bg p size R w v xs)(hq:w.heap.size≤q)(hsz:0<size)(hR:∀cs x,R w cs x→R' w cs x):bg q size R' w v xs:=by obtain⟨A,c,hv,h1,h2,h4⟩:=h;refine⟨A,c,hv,h1,h2,fun k x hx=>?_⟩;obtain⟨b,off,cs,ha,hb,hcl,hcell,hr⟩:=h4 k x hx;have:=bZ (hcell 0 cs[0] (zW (by omega)));simp at this;exact⟨b,off,cs,ha,by omega,hcl,hcell,hR _ _ hr⟩
section
variable {p q:Nat} {w:World} {v:Value}
theorem kL.re{l:List (List Int)}(h:kL p w v l)(hq:w.heap.size≤q):kL q w v l:=bg.re h hq (by decide) fun cs x=>by rintro⟨u,rfl,hi⟩;exact⟨u,rfl,hi.re hq⟩
theorem kr.re{l:List ai}(h:kr p w v l)(hq:w.heap.size≤q):kr q w v l:=bg.re h hq (by decide) fun cs x hr=>hr
theorem aN.re{s:aZ}(h:aN p w v s)(hq:w.heap.size≤q):aN q w v s:=by
 obtain⟨vP,vB,vX,h0,h1,h2,h3,h4⟩:=h;refine⟨vP,vB,vX,h0,bg.re h1 hq (by decide) fun cs x=>?_,bg.re h2 hq (by decide) fun cs x=>?_,bg.re h3 hq (by decide) fun cs x hr=>hr,h4⟩
 ·rintro⟨u,rfl,a,b,c⟩;exact⟨u,rfl,kr.re a hq,b,c⟩
 ·rintro⟨u,rfl,a⟩;exact⟨u,rfl,kL.re a hq⟩
theorem bN.re{t:en}(h:bN p w v t)(hq:w.heap.size≤q):bN q w v t:=by obtain⟨vS,vG,h0,h1,h2⟩:=h;refine⟨vS,vG,h0,bg.re h1 hq (by decide) fun cs x hr=>hr,bg.re h2 hq (by decide) fun cs x=>?_⟩;rintro⟨u,rfl,a,b⟩;exact⟨u,rfl,a.re hq,b⟩
end
section
variable {w wx:World} {L:BL}
theorem ae.swap{a b:Nat×Array Value×TypeId}(h:ae w wx (L++[a,b])):ae w wx (L++[b,a]):=by
 have key:∀k x,(L++[b,a])[k]?=some x→∃j,(L++[a,b])[j]?=some x∧(k<L.length→j=k)∧(k=L.length→j=L.length+1)∧(k=L.length+1→j=L.length)∧k<L.length+2:=by
  intro k x hx;have hk:=(zY.1 hx).1;simp at hk;rcases zV k L.length with h1|h1
  ·rw[zH h1]at hx;exact⟨k,by rw[zH h1];exact hx,fun _=>rfl,by omega,by omega,by omega⟩
  ·rw[yT h1]at hx;rcases Nat.eq_or_lt_of_le h1 with h2|h2
   ·subst h2;refine⟨L.length+1,?_,by omega,by omega,by omega,by omega⟩;rw[yT (by omega)];simpa using hx
   ·obtain rfl:k=L.length+1:=by omega
    refine⟨L.length,?_,by omega,by omega,by omega,by omega⟩;rw[yT (by omega)];simpa using hx
 refine⟨h.xt,⟨fun k b' cs t hk=>?_,fun i j x y hi hj hij=>?_⟩⟩
 ·obtain⟨j,hj,-⟩:=key k _ hk;exact h.bl.bk j b' cs t hj
 ·obtain⟨i',hi',a1,a2,a3,a4⟩:=key i _ hi;obtain⟨j',hj',b1,b2,b3,b4⟩:=key j _ hj;refine h.bl.df i' j' x y hi' hj' ?_;rcases xK i L.length with c|c|c<;>rcases xK j L.length with d|d|d
  ·have:=a1 c;have:=b1 d;omega
  ·have:=a1 c;have:=b2 d;omega
  ·have:=a1 c;have:=b3 (by omega);omega
  ·have:=a2 c;have:=b1 d;omega
  ·omega
  ·have:=a2 c;have:=b3 (by omega);omega
  ·have:=a3 (by omega);have:=b1 d;omega
  ·have:=a3 (by omega);have:=b2 d;omega
  ·omega
theorem ae.add{g:Nat}{cur:Array Value}{t:TypeId}(h:ae w wx L)(hb:Bk wx g cur t)(hg:w.heap.size≤g)(hn:∀(k:Nat) x,L[k]?=some x→x.1≠g):ae w wx (L++[(g,cur,t)]):=by
 refine⟨h.xt,⟨fun k b' cs t' hk=>?_,fun i j x y hi hj hij=>?_⟩⟩
 ·rcases zV k L.length with h1|h1
  ·rw[zH h1]at hk;exact h.bl.bk k b' cs t' hk
  ·have h2:=(zY.1 hk).1;simp at h2;obtain rfl:k=L.length:=by omega
   simp at hk;obtain⟨rfl,rfl,rfl⟩:=hk;exact⟨hg,hb⟩
 ·have e1:=(zY.1 hi).1;have e2:=(zY.1 hj).1;simp at e1 e2;rcases zV i L.length with h1|h1
  ·rw[zH h1]at hi;rcases zV j L.length with h2|h2
   ·rw[zH h2]at hj;exact h.bl.df i j x y hi hj hij
   ·obtain rfl:j=L.length:=by omega
    simp at hj;subst hj;exact hn i x hi
  ·obtain rfl:i=L.length:=by omega
   simp at hi;subst hi;rcases zV j L.length with h2|h2
   ·rw[zH h2]at hj;exact fun e=>hn j y hj e.symm
   ·omega
end
structure Dd (cur:Array Value) (n cap:Nat) (l:List Int):Prop where
 size:cur.size=cap
 le:n≤cap
 mx:cap≤maxLen
 len:l.length=n
 eq:cur.toList.take n=l.map (Value.int .i64)
section
variable {w:World} {b g n cap:Nat} {cur:Array Value} {l:List Int}
theorem av.ans(h:av w b (D (some ⟨g,0,none⟩) n cap) l)(hn:l.length=n):∃cur,Bk w g cur 3∧Dd cur n cap l∧b≤g:=by
 rcases h.1.2 with ⟨e,h0⟩|⟨g',cap',cur,e,hb,hk,h1,h2,h3,h4⟩
 ·cases e
 ·cases e;exact⟨cur,hk,⟨by omega,by omega,h2,hn,by rw[←h4,hn];simp⟩,hb⟩
theorem Dd.intV(h:Dd cur n cap l)(hb:Bk w g cur 3)(hg:b≤g)(h64:∀x∈l,aC x)(hl:l.length≤1000000):av w b (D (some ⟨g,0,none⟩) n cap) l:=by have e:=h.len;refine⟨?_,h64,hl⟩;rw[e];exact⟨by simp[e],.inr ⟨g,cap,cur,rfl,hg,hb,h.le,h.mx,by have:=h.size;omega,by rw[wY];exact h.eq⟩⟩
theorem Dd.get(h:Dd cur n cap l){i:Nat}{v:Int}(hv:l[i]?=some v):cur[i]?=some (B C v):=by
 have hi:i<n:=by have:=(zY.1 hv).1;have:=h.len;omega
 have h1:(cur.toList.take n)[i]?=(l.map (Value.int .i64))[i]?:=by rw[h.eq]
 rw[List.getElem?_take_of_lt hi,zL,hv]at h1;simpa using h1
theorem Dd.put(h:Dd cur n cap l){i:Nat}(hi:i<n)(v:Int):Dd (cur.setIfInBounds i (B C v)) n cap (l.set i v):=by refine⟨by simp[h.size],h.le,h.mx,by simp[h.len],?_⟩;rw[Array.toList_setIfInBounds,List.take_set,h.eq,List.map_set]
end
open _root_.Go.Proofs.Tryz
theorem CE(n:Nat)(w:World)(hn:n≤24) :
  Calls prog 130 #[.int .u64 1,.int .u64 n] w fun e w'=>e=.returned (.tuple #[.int .u64 0,.int .u64 n])∧w=w':=by
 have h:n=0∨n=1∨n=2∨n=3∨n=4∨n=5∨n=6∨n=7∨n=8∨n=9∨n=10∨n=11∨n=12∨n=13∨n=14∨n=15∨n=16∨n=17∨n=18∨n=19∨n=20∨n=21∨n=22∨n=23∨n=24:=by omega
 clear hn;rcases h with rfl|rfl|rfl|rfl|rfl|rfl|rfl|rfl|rfl|rfl|rfl|rfl|rfl|rfl|rfl|rfl|rfl|rfl|rfl|rfl|rfl|rfl|rfl|rfl|rfl;all_goals
  go_enter func130,ntmps130
  go_wp2
  go_ret2
  exact⟨rfl,rfl⟩
theorem ur(n:Nat)(w:World)(hn:n≤24) :
  Calls prog 105 #[.int .u64 1,.int .u64 n] w fun e w'=>e=.returned (.tuple #[.int .u64 0,.int .u64 n])∧w=w':=by
 go_enter func105,ntmps105
 go_wp2_with (go_at_call 130;refine (CE n _ hn).mono ?_;rintro e w' ⟨rfl,rfl⟩);go_ret2
 exact⟨rfl,rfl⟩
def rp(x:Int)(n k:Nat):List Value:=List.replicate k (B C x)++List.replicate (n-k) (B C 0)
theorem Dr(h:k≤n):(rp x n k).length=n:=by simp[rp];omega
theorem qD{m:Nat}(h:k+m≤n):splice (rp x n k) k (List.replicate m (B C x))=rp x n (k+m):=by
 unfold splice rp;rw[List.take_left' (by simp),wG,List.drop_append,List.drop_eq_nil_of_le (by simp),wG,List.nil_append,List.drop_replicate,←xV,List.replicate_append_replicate];congr 2
 omega
theorem FH{j:Nat}(h:j<k):(rp x n k)[j]?=some (B C x):=by unfold rp;rw[zH (by simpa using h)];simp[h]
theorem BU(n:Nat):madeCells #[B C 0] n=(rp 0 n 0).toArray:=by
 apply Array.ext
 ·simp[size_madeCells,rp]
 ·intro i h1 h2;simp[madeCells,rp,Nat.mod_one]
theorem Gi(x y:Int)(n:Nat):rp x n 0=rp y n 0:=by simp[rp]
theorem oA(b o c n:Nat)(x:Int)(w:World)(hn:n≤24)(hc:w.cell? ⟨b,o,none⟩=some (B C x))(hc1:1≤c)(hc2:c≤9223372036854775807) :
  Calls prog 76 #[D (some ⟨b,o,none⟩) 1 c,B C n] w fun e w'=>∃v,e=.returned v∧w'.ownsRow w.heap.size 3 1 v n ((List.replicate n x).map (Value.int .i64))∧ab w w':=by
 obtain⟨i0,hi0,hz0,hz1,hz2⟩:=info_parts Tryz.infoI;have hsz:(prog.info? 3).map (·.size)=some 1:=by kernel_rfl
 have hmk:(Instr.makeSlice 22 (B C (n:Int)) (B C (n:Int))).run prog w=.ok (D (some ⟨w.heap.size,0,none⟩) n n) (w.alloc (.cells (rp x n 0).toArray 3)):=by have:=run_make (P:=prog) w 22 3 i0 _ underlying22 hi0 hz0 .i64 .i64 (n:Int) (n:Int) (by omega) (by omega) (by rw[hz2];omega) (by omega);rw[this,hz1];simp only[yR,wY,Value.cells];rw[BU,Gi 0 x]
 have hd1:decide ((n:Int)<0)=false:=by simp
 have hd2:decide ((9223372036854775807:Int)<(n:Int))=false:=by simp;omega
 have HC:=zZ (ab.cell ((zE w).alloc (.cells (rp x n 0).toArray 3)) hc);have HG0:=zZ (heap_alloc_new w (.cells (rp x n 0).toArray 3));have HE0:=zZ ((zE w).alloc (.cells (rp x n 0).toArray 3));generalize hcur:rp x n 0=cur at hmk HC HG0 HE0;have HCU:=zZ hcur;clear hcur hz0;go_enter func76,ntmps76
 have hm1:Nat.min 1 n≤n:=Nat.min_le_right _ _;have hm2:Nat.min 1 n≤1:=Nat.min_le_left _ _;generalize hm:Nat.min 1 n=m at hm1 hm2;have HM:=zZ hm;clear hm;go_wp2_with (first
  |(go_at_call 105;refine (ur n _ hn).mono ?_;rintro e w' ⟨rfl,rfl⟩)
  |(refine wpList_copy_splice rfl (.tmp 31) (.tmp 32) 22 22 rfl 3 underlying22 hsz (some ⟨w.heap.size,0,none⟩) (some ⟨b,o,none⟩) n n 1 c rfl rfl w.heap.size 0 cur 3 HG0.out (List.replicate m (B C x)) (by rw[HM.out];simp) (fun _=>⟨rfl,_,rfl,fun j v hj=>by obtain⟨h1,h2⟩:=zY.1 hj;simp at h1 h2;subst h2;obtain rfl:j=0:=(by omega);exact HC.out⟩) (by rw[←HCU.out,Dr (by omega)];simp;exact hm1) (by simp[Value.oneCell']) w.heap.size w HE0.out (zX _) ?_;intro w2 hg2 hb2))
 have hg2':Hid (w2.heap[w.heap.size]?=some (.cells (rp x n m).toArray 3 (0,0))):=by have:=hg2.out;rw[←HCU.out,qD (k:=0) (by omega),yV]at this;exact this
 have hb2':Hid (ab w w2):=hb2;clear hg2 hb2 HG0 HE0 HC hmk hc;have hmn:m=n∨0<m:=by have h1:=HM.out;have h2:Nat.min 1 n=min 1 n:=rfl;omega
 go_loopw [8] (fun s8 wr=>∃k:Nat,s8=B C k∧k≤n∧(k=n∨0<k)∧Hid (wr.heap[w.heap.size]?=some (.cells (rp x n k).toArray 3 (0,0))∧ab w wr)) (fun i _=>n-(intOf i).toNat)
 case atStart=>exact⟨m,rfl,hm1,hmn,hg2'.out,hb2'.out⟩
 case round =>
  obtain⟨k,rfl,hk,hk0,HR⟩:=hrel;clear hg2' hb2';by_cases hkn:k<n
  ·have hkp:0<k:=by omega
   clear hk0;have hd5:(0:Int)≤(k:Int):=by omega
   have hd6:(k:Int)≤(n:Int):=by omega
   have hd7:¬n=k:=by omega
   have hq1:Nat.min k (n-k)≤n-k:=Nat.min_le_right _ _;have hq2:Nat.min k (n-k)≤k:=Nat.min_le_left _ _;have hq3:0<Nat.min k (n-k):=by have:Nat.min k (n-k)=min k (n-k):=rfl;omega
   generalize hq:Nat.min k (n-k)=q at hq1 hq2 hq3;have HQ:=zZ hq;clear hq;have hwr:IntKind.i64.wrap ((k:Int)+(q:Int))=(k:Int)+(q:Int):=yQ _ (by omega);go_wp2_with fail;have hS:(fun _:World=>True) wr.drew:=trivial;refine zR 99 (fun _=>True) ?_;refine zS 7 [(0,38),(1,39),(2,40),(3,41),(4,42),(5,43),(6,44)] trivial ?_;iterate 7 (apply zT;exact⟨rfl,rfl⟩;(·intro _ _;go_simp;try with_reducible rfl);simp only[kA];exact rfl)
   refine zN (zO 7 (fun K hK=>?_));refine step_copy_splice rfl (.tmp 41) (.tmp 44) 22 22 rfl 3 underlying22 hsz (some ⟨w.heap.size,k,none⟩) (some ⟨w.heap.size,0,none⟩) (n-k) (n-k) k n rfl rfl w.heap.size k (rp x n k) 3 HR.out.1 (List.replicate q (B C x)) (by rw[HQ.out];simp) (fun _=>⟨rfl,_,rfl,fun j v hj=>?_⟩) (by rw[Dr hk];simp;omega) (by simp[Value.oneCell']) w.heap.size w HR.out.2.drew (zX _) ?_
   ·obtain⟨h1,h2⟩:=zY.1 hj;simp at h1 h2;subst h2;rw[ik,yV];exact (cell_of_row wr.drew w.heap.size j _ 3 (0,0) HR.out.1).trans (by simpa using FH (x:=x) (n:=n) (show j<k by omega))
   intro w3 hg3 hb3;refine hK.out _ _ (fun _=>trivial) ?_;clear hK K;try simp only[kA]
   refine zS 1 [(8,46)] trivial ?_;(apply zT;exact⟨rfl,rfl⟩;(·intro _ _;go_simp;try with_reducible rfl);simp only[kA];exact rfl);refine zN (zO 9 (fun K hK=>?_));go_simp;refine hK.out _ _ (fun _=>trivial) ?_;clear hK K;try simp only[kA]
   refine zD ?_;have HG3:Hid (w3.heap[w.heap.size]?=some (.cells (rp x n (k+q)).toArray 3 (0,0))):=by have:=hg3.out;rw[qD (by omega)]at this;exact this
   have HE3:Hid (ab w w3):=hb3;clear hg3 hb3 hwr hS;go_wp2_with fail;go_roundw
   case rel=>exact⟨k+q,by simp,by omega,by omega,HG3.out,HE3.out⟩
   case measure=>simp[intOf];omega
  ·obtain rfl:k=n:=by omega
   go_wp2_with fail;go_ret
   refine⟨_,rfl,⟨by simp,.inr ⟨w.heap.size,k,_,rfl,zX _,HR.out.1,zX _,by unfold maxLen;omega,by simp[rp],?_⟩⟩,HR.out.2⟩;simp[rp]
def pX(w:World)(code var:Int)(sv bv:Value)(d f ld:Int)(wx:World):Prop :=
 (wx.cell? ⟨w.heap.size,0,none⟩=some (B C code)∧wx.cell? ⟨w.heap.size,1,none⟩=some (B C var)∧wx.cell? ⟨w.heap.size,2,none⟩=some sv)∧wx.cell? ⟨w.heap.size+1,0,none⟩=some bv ∧
 wx.cell? ⟨w.heap.size+1+1,0,none⟩=some (B C d)∧wx.cell? ⟨w.heap.size+1+1,1,none⟩=some (B C f)∧wx.cell? ⟨w.heap.size+1+1,2,none⟩=some (B C ld)
theorem pX.ext{wx w':World}{code var:Int}{sv bv:Value}(h:pX w code var sv bv d f ld wx)(hx:ab wx w'):pX w code var sv bv d f ld w' :=
 ⟨⟨hx.cell h.1.1,hx.cell h.1.2.1,hx.cell h.1.2.2⟩,hx.cell h.2.1,hx.cell h.2.2.1,hx.cell h.2.2.2.1,hx.cell h.2.2.2.2⟩
theorem pX.start(w:World)(code var d f ld:Int)(sv bv:Value)(t1 t2 t3:TypeId) :
  pX w code var sv bv d f ld (((w.alloc (.cells #[B C code,B C var,sv] t1)).alloc (.cells #[bv] t2)).alloc (.cells #[B C d,B C f,B C ld] t3)):=by
 obtain⟨h1,h2,h3,h4⟩:=lK (w:=w) (o:=.cells #[B C code,B C var,sv] t1) (o':=.cells #[bv] t2) rfl rfl ((zE _).alloc (.cells #[B C d,B C f,B C ld] t3));have h5:=AI (heap_alloc_new ((w.alloc (.cells #[B C code,B C var,sv] t1)).alloc (.cells #[bv] t2)) (.cells #[B C d,B C f,B C ld] t3));exact⟨⟨h1,h2,h3⟩,h4,by simpa using h5⟩
def dO(p:Nat)(w:World)(l:List Int)(er:Int)(e:Ending)(w':World):Prop:=∃v,e=.returned (.tuple #[v,B C er])∧ao p w' v l∧ab w w'
theorem dO.mk0{w':World}{l:List Int}{er k:Int}(h:[]=l∧k=er)(hE:ab w w'):dO p w l er (.returned (.tuple #[D none 0 0,B C k])) w':=by obtain⟨rfl,rfl⟩:=h;exact⟨_,rfl,ao.nil _ _,hE⟩
theorem qh:∀(G:List (Nat×Nat)),Hi n G→(cY G).length≤5*G.length:=by
 intro G;induction G with
 |nil=>simp[cY]
 |cons g G ih =>
  intro h;have:=ih ⟨(xZ.1 h.1).2,fun x hx=>h.2 x (by simp[hx])⟩;have:=(h.2 g (by simp)).2.2;rw[bj,zI,bV];simp;omega
theorem D7(code var d f ld page:Int)(v vb vc:Value)(ps:List ai)(pgs:List (List Int))(cs:List Int)(w:World)(hp:p<w.heap.size)(h:kr p w v ps)(hb:kL p w vb pgs)(hc:ao p w vc cs)(hpg:aC page) :
  Calls prog 77 #[.agg #[B C code,B C var,v],.agg #[vb],.agg #[B C d,B C f,B C ld],B C page,vc] w (dO p w (bQ code var ps pgs d f ld page cs) (gh code var ps pgs d f ld page cs)):=by
 obtain⟨A,n,c,rfl,hnc,hcc,hnn,HL⟩:=h.open_;obtain⟨Ab,m,cb,rfl,hmc,hcb,hmm,HM⟩:=hb.open_;obtain⟨Ac,nc,ccc,rfl,hncc,hccc,hnnc,HC⟩:=hc.open_;have HE:Hid (ab w (((w.alloc (.cells #[B C code,B C var,D A n c] 89)).alloc (.cells #[D Ab m cb] 92)).alloc (.cells #[B C d,B C f,B C ld] 46))):=(((zE _).alloc _).alloc _).alloc _;have HB:=zZ (pX.start w code var d f ld (D A n c) (D Ab m cb) 89 92 46);have HQ:=zZ (h.ext (aI.stab p) HE.out);have HP:=zZ (hb.ext (RI.stab p) HE.out);have HI:=zZ (hc.ext HE.out);have hpw:=zP hp HE.out.size;have HPG:=zZ hpg;clear h hb hc hpg;go_enter func77,ntmps77
 go_upto_region 1 with (fail)
 generalize hW:((w.alloc (.cells #[B C code,B C var,D A n c] 89)).alloc (.cells #[D Ab m cb] 92)).alloc (.cells #[B C d,B C f,B C ld] 46)=W at *
 clear hW;go_cut [34] (fun s34 wx=>∃b:Bool,s34=.bool b∧Hid ((b=false↔dp d f ld=true∧eU code var ps pgs=true)∧ab W wx))
 case first =>
  obtain⟨⟨b0,b1,b2⟩,b3,b4,b5,b6⟩:=HB.out;go_wp2_with fail;refine (gu _ _ _ ps _ HQ.out).mono ?_;rintro e w1 ⟨rfl,hx1⟩;cases hv:d9 code var ps with
  |false =>
   have hnb:eU code var ps pgs=false:=cN fun x=>by have:=x.1;rw[hv]at this;cases this
   replace hv:=zZ hv;replace hnb:=zZ hnb;go_wp2_with fail;go_meet
   exact⟨true,rfl,by simp[hnb.out],hx1⟩
  |true =>
   replace hv:=zZ hv;replace HB:=zZ (HB.out.ext hx1);have HE1:=zZ hx1;clear b0 b1 b2 b3 b4 b5 b6 hx1;obtain⟨⟨b0,b1,b2⟩,b3,b4,b5,b6⟩:=HB.out;go_wp2_with fail;refine (fm _ _ _ _).mono ?_;rintro e w2 ⟨rfl,hx2⟩;replace HE1:=zZ (HE1.out.trans hx2);replace HB:=zZ (HB.out.ext hx2);clear b0 b1 b2 b3 b4 b5 b6 hx2;cases ht:dp d f ld with
   |false =>
    replace ht:=zZ ht;go_wp2_with fail;go_meet
    exact⟨true,rfl,by simp[ht.out],HE1.out⟩
   |true =>
    replace ht:=zZ ht;obtain⟨⟨b0,b1,b2⟩,b3,b4,b5,b6⟩:=HB.out;go_wp2_with fail;refine (gT _ _ _ _ ps pgs _ (HQ.out.ext (aI.stab p) HE1.out) (HP.out.ext (RI.stab p) HE1.out)).mono ?_;rintro e w3 ⟨rfl,hx3⟩;go_wp2_with fail;go_meet
    exact⟨!eU code var ps pgs,rfl,by simp[ht.out],HE1.out.trans hx3⟩
 case rest =>
 obtain⟨b,rfl,HR⟩:=hcut;have HT:=zZ HR.out.1;replace HB:=zZ (HB.out.ext HR.out.2);replace HQ:=zZ ((HQ.out.ext (aI.stab p) HR.out.2));replace HP:=zZ ((HP.out.ext (RI.stab p) HR.out.2));replace HI:=zZ (HI.out.ext HR.out.2);replace HE:=zZ (HE.out.trans HR.out.2);replace hpw:=zP hpw HR.out.2.size;clear HR;cases b;case true =>have H1:=zZ (El (code:=code) (var:=var) (ps:=ps) (pgs:=pgs) (d:=d) (f:=f) (ld:=ld) (page:=page) (cs:=cs) (fun x=>by have:=HT.out.2 x;cases this));go_wp2_with fail;exact bodyPost_ret (v:=.tuple #[D none 0 0,B C 1]) (by simp[results,results77,go_sem]) rfl (dO.mk0 H1.out HE.out)
 have HV:=zZ (HT.out.1 rfl);clear HT;obtain⟨⟨b0,b1,b2⟩,b3,b4,b5,b6⟩:=HB.out;by_cases hin:0≤page∧page<m;case neg =>
  have H4:=zZ (Dl (page:=page) (cs:=cs) HV.out (by rw[HM.out];exact hin));have hin':page<0∨(m:Int)≤page:=by omega
  clear hin;by_cases hneg:page<0
  ·clear hin';go_wp2_with fail;exact bodyPost_ret (v:=.tuple #[D none 0 0,B C 4]) (by simp[results,results77,go_sem]) rfl (dO.mk0 H4.out HE.out)
  ·have hge:(m:Int)≤page:=by omega
   clear hin';go_wp2_with fail;exact bodyPost_ret (v:=.tuple #[D none 0 0,B C 4]) (by simp[results,results77,go_sem]) rfl (dO.mk0 H4.out HE.out)
 have HIN:Hid (0≤page∧page<pgs.length):=by show _∧_;rw[HM.out];exact hin
 obtain⟨hi0,hi1⟩:=hin;go_wp2_with fail;refine (pF _ _ _ _ _ ps pgs _ hpw HQ.out HP.out HPG.out).mono ?_;rintro e w4 ⟨vf,rfl,hF,hx4⟩;obtain⟨Af,nf,cf,rfl,hncf,hcf,hnnf,HLF⟩:=hF.open_;replace hF:=zZ hF;replace HB:=zZ (HB.out.ext hx4);replace HQ:=zZ ((HQ.out.ext (aI.stab p) hx4));replace HI:=zZ (HI.out.ext hx4);replace HE:=zZ (HE.out.trans hx4);replace hpw:=zP hpw hx4.size;clear b0 b1 b2 b3 b4 b5 b6 hx4 HP;by_cases hlen:nc=nf;case neg =>
  have H22:=zZ (AJ (cs:=cs) HV.out HIN.out (by rw[HC.out,HLF.out];exact hlen));have hne:((nc:Int)!=nf)=true:=by simp;omega
  clear hlen;go_wp2_with fail;exact bodyPost_ret (v:=.tuple #[D none 0 0,B C 22]) (by simp[results,results77,go_sem]) rfl (dO.mk0 H22.out HE.out)
 subst hlen;have HLN:Hid (cs.length=(aA code var ps pgs page).length):=by show _=_;rw[HC.out,HLF.out]
 have hnn0:((nc:Int)!=nc)=false:=by simp
 go_wp2_with fail;refine (hJ _ cs _ HI.out).mono ?_;rintro e w' ⟨rfl,rfl⟩;cases hall:cs.all bd with
 |false =>
  have H2:=zZ (DN HV.out HIN.out HLN.out hall);replace hall:=zZ hall;go_wp2_with fail;exact bodyPost_ret (v:=.tuple #[D none 0 0,B C 2]) (by simp[results,results77,go_sem]) rfl (dO.mk0 H2.out HE.out)
 |true =>
 have H0:=zZ (yx HV.out HIN.out HLN.out hall);replace hall:=zZ hall;obtain⟨j,rfl⟩:=zG hi0;have hjm:j<m:=by omega
 obtain⟨pg,hpgj⟩:∃pg,pgs[j]?=some pg:=⟨_,zW (by have:=HM.out;omega)⟩
 have HFI:=zZ (dE HV.out.2 hpgj);have HGO:=zZ (mB HV.out.2 hpgj);have HFG:Hid (aA code var ps pgs (j:Int)=cY (gf ps pg)):=by show _=_;rw[HFI.out];exact mJ ps pg HGO.out.2
 have hps:=(iV (jg HV.out.2).1)
 have hn24:n≤24:=by have:=hps.2.2.2.2.2.1;have:=HL.out;omega
 have hn1:1≤n:=by have:=hps.2.2.2.2.1;have:=HL.out;omega
 clear hps;have hnc120:nc≤1000:=by have h1:=HLF.out;rw[HFG.out]at h1;have h2:=qh _ HGO.out.1;have h3:(gf ps pg).length≤pg.length:=vZ _ _;have h4:=(eA HV.out.2 hpgj).1;omega
 clear hpgj;go_wp2_with fail;refine (Ci _ _ _ cs _ hpw hF.out HI.out (by have:=HC.out;omega)).mono ?_;rintro e w5 ⟨vr,rs,er,rfl,hPr,hx5,hr1,hr2⟩;obtain⟨hrs,rfl⟩:=hr2 HLN.out.symm;obtain⟨Ar,nr,cr,rfl,hncr,hcr,hnnr,HLR⟩:=hPr.open_;have HRS:Hid (rs=eN (gf ps pg) cs):=by
  show _=_
  rw[hrs];exact Ej HLN.out.symm HGO.out.1.1 (fun g hg=>(HGO.out.1.2 g hg).2.1) HFG.out
 replace hPr:=zZ hPr;replace HB:=zZ (HB.out.ext hx5);replace HE:=zZ (HE.out.trans hx5);replace hF:=zZ ((hF.out.ext (rB.stab p) hx5));replace hpw:=zP hpw hx5.size;clear hr1 hr2 hrs hx5 HI;obtain⟨⟨b0,b1,b2⟩,b3,b4,b5,b6⟩:=HB.out;have ba:∀o,(w5.alloc o).cell? ⟨w.heap.size,2,none⟩=some (D A n c):=fun o=>ab.cell ((zE _).alloc o) b2;have HE5:=zZ ((zE w5).alloc (.cells #[B C (-1)] 3));go_wp2_with fail;refine (oA w5.heap.size 0 1 n (-1) _ hn24 (ak (heap_alloc_new w5 (.cells #[B C (-1)] 3)) (i:=0) rfl) (by omega) (by omega)).mono ?_;rintro e w6 ⟨va,rfl,hown,hx6⟩;obtain⟨g,cap,rfl,hgb,hgl⟩:=aQ hown (by omega);have hx56:=zZ (HE5.out.trans hx6);have HOWN:=zZ (bo hown (base':=w5.heap.size) (by simp));have hgw:w5.heap.size≤g:=by simp at hgb;omega
 have hpg:p<w5.heap.size:=hpw;clear b0 b1 b2 b3 b4 b5 b6 ba hown hx6 HE5 hgb hgl HQ;have HANS:Hid (ti (bH d f ld) (gf ps pg) cs (List.replicate n (-1))=bQ code var ps pgs d f ld (j:Int) cs):=by
  show _=_
  rw[←H0.out.1,HFG.out,←HL.out];exact Fx HGO.out.1 (by rw[←HFG.out];exact HLN.out.symm)
 go_wp2_with fail;go_loopw [16,72] (fun s16 s72 wr=>∃(r nx:Nat) (G':List (Nat×Nat)) (cs' acc:List Int),s16=B C nx∧s72=B C r∧r≤nr∧nx≤nc ∧
   Hid (rs.drop r=eN G' cs'∧(aA code var ps pgs (j:Int)).drop nx=cY G'∧Hi n G'∧(cY G').length=cs'.length∧cs'.all bd=true∧ti (bH d f ld) G' cs' acc=bQ code var ps pgs d f ld (j:Int) cs∧acc.length=n∧wr.ownsRow w5.heap.size 3 1 (D (some ⟨g,0,none⟩) n cap) n (acc.map (Value.int .i64))∧ab w5 wr)) (fun _ i _=>nr-(intOf i).toNat)
 case atStart=>exact⟨0,0,gf ps pg,cs,List.replicate n (-1),rfl,rfl,by omega,by omega,by simpa using HRS.out,by simpa using HFG.out,by have:=HGO.out.1;rw[HL.out]at this;exact this,by rw[←HFG.out];exact HLN.out.symm,hall.out,HANS.out,by simp,HOWN.out,hx56.out⟩
 case round =>
  obtain⟨r,nx,G',cs',acc,rfl,rfl,hr,hnx,HR⟩:=hrel;clear HOWN hx56 HRS HANS HFI HGO;obtain⟨q1,q2,q3,q4,q5,q6,q7,q8,q9⟩:=HR.out;by_cases hrn:r<nr
  ·cases G' with
   |nil =>
    exfalso;have:=congrArg List.length q1;have:=HLR.out;simp[eN]at *;omega
   |cons gg G'' =>
   have hgo:=q3.2 gg (by simp);have hlg:gg.2≤cs'.length:=by rw[bj,zI,bV]at q4;omega
   have hrun:rs[r]?=some (cs'.take gg.2):=by have:=congrArg (fun l=>l[0]?) q1;simpa[eN] using this
   have hfld:(aA code var ps pgs (j:Int))[nx]?=some ⟨(gg.1:Int),0⟩:=by
    have h0:((aA code var ps pgs (j:Int)).drop nx)[0]?=some ⟨(gg.1:Int),0⟩:=by rw[q2,bj,zH (by rw[bV];omega)];unfold Dc;rw[zL,xH (by omega)];rfl
    rw[xB]at h0;simpa using h0
   have hnxl:nx<nc:=by have:=(zY.1 hfld).1;have:=HLF.out;omega
   have hnxs:nx+gg.2≤nc:=by have h1:=congrArg List.length q2;rw[bj,zI,bV,xS]at h1;have:=HLF.out;omega
   obtain⟨br,or,cs0,l0,rfl,_⟩:=hPr.out.at_ hrn;obtain⟨bf,of,cs1,z1,rfl,_⟩:=hF.out.at_ hnxl;obtain⟨u,l,hcu,hIu,HX⟩:=(hPr.out.ext (RI.stab p) q9).page hrn;obtain rfl:l=cs'.take gg.2:=by have:=HX.out;rw[hrun]at this;exact (xN this).symm
   have htl:(cs'.take gg.2).length=gg.2:=by rw[zF];omega
   obtain⟨Au,nu,cu,rfl,_,_,_,HLu⟩:=hIu.open_;obtain rfl:nu=gg.2:=by rw[←HLu.out,htl]
   have htv:(cs'.take gg.2).all bd=true:=by rw[yS]at *;exact fun x hx=>q5 x (wQ hx)
   have hje:=qQ (d:=d) (f:=f) (lead:=ld) HV.out.1 htl hgo.2.1 hgo.2.2 htv;have hjb:=mh d f ld (cs'.take gg.2);have HNEXT:Hid (ti (bH d f ld) G'' (cs'.drop gg.2) (acc.set gg.1 (bH d f ld (cs'.take gg.2)))=bQ code var ps pgs d f ld (j:Int) cs):=q6;have hdv:(cs'.drop gg.2).all bd=true:=by rw[yS]at *;exact fun x hx=>q5 x (wE hx)
   have hd1:rs.drop (r+1)=eN G'' (cs'.drop gg.2):=by rw[←List.drop_drop,q1];rfl
   have hd2:(aA code var ps pgs (j:Int)).drop (nx+gg.2)=cY G'':=by rw[←List.drop_drop,q2,bj,List.drop_append,List.drop_eq_nil_of_le (by rw[bV];omega),bV];simp
   have hd4:(cY G'').length=(cs'.drop gg.2).length:=by rw[bj,zI,bV]at q4;rw[xS];omega
   have hg3:Hi n G'':=⟨(xZ.1 q3.1).2,fun x hx=>q3.2 x (by simp[hx])⟩
   obtain⟨hgn,hg2,hg5⟩:=hgo;generalize hjv:bH d f ld (cs'.take gg.2)=jv at *
   replace q7:=zZ q7;replace q8:=zZ q8;replace q9:=zZ q9;replace hje:=zZ hje;replace hrun:=zZ hrun;replace hfld:=zZ hfld;replace htl:=zZ htl;replace hIu:=zZ hIu;replace HNEXT:=zZ HNEXT;replace hdv:=zZ hdv;replace hd1:=zZ hd1;replace hd2:=zZ hd2;replace hd4:=zZ hd4;replace hg3:=zZ hg3;replace hjv:=zZ hjv;replace htv:=zZ htv;clear q1 q2 q3 q4 q5 q6 HR hlg;obtain⟨⟨b0,b1,b2⟩,b3,b4,b5,b6⟩:=HB.out.ext q9.out;go_wp2_with fail;refine (CJ _ _ _ _ (cs'.take gg.2) _ hIu.out).mono ?_;rintro e x1 ⟨rfl,hx1⟩;rw[←hje.out,hjv.out];replace q9:=zZ (q9.out.trans hx1);replace q8:=zZ (ac q8.out hx1);obtain⟨q,cq,_,HQ,_,_⟩:=(hF.out.ext (rB.stab p) q9.out).fld hnxl;obtain rfl:q=⟨(gg.1:Int),0⟩:=by have:=HQ.out;rw[hfld.out]at this;exact (xN this).symm
   simp only at cq;obtain⟨y,hcy⟩:∃y,x1.cell? ⟨g,gg.1,none⟩=some y:=by have:=q8.out.cellAt gg.1 (by omega);exact⟨_,this.trans (zW (by have:=q7.out;simp;omega))⟩
   have hfy:=q8.out.frozenAt gg.1;have HS:=zZ (FJ (k:=gg.1) (x:=jv) q8.out);have HE9:=zZ (q9.out.setCell (p:=⟨g,gg.1,none⟩) hgw (B C jv));have hzz:((0:Int)!=0)=false:=rfl;clear b0 b1 b2 b3 b4 b5 b6 hx1 HQ HX hcu;go_wp2_with fail;go_roundw
   case rel=>exact⟨r+1,nx+gg.2,G'',cs'.drop gg.2,acc.set gg.1 jv,by go_num,by go_num,by omega,by omega,hd1.out,hd2.out,hg3.out,hd4.out,hdv.out,HNEXT.out,by have:=q7.out;simp;omega,HS.out,HE9.out⟩
   case measure=>simp[intOf];omega
  ·obtain rfl:r=nr:=by omega
   have hG:G'=[]:=by
    cases G' with
    |nil=>rfl
    |cons gg G'' =>
     exfalso;rw[List.drop_of_length_le (by have:=HLR.out;omega)]at q1;simp[eN]at q1
   subst hG;have hacc:acc=bQ code var ps pgs d f ld (j:Int) cs:=q6;have hI9:ao p wr (D (some ⟨g,0,none⟩) n cap) acc:=ao.of_own q8 hpg (by rw[hacc,←H0.out.1];exact oC _ _ _) (by omega);replace q9:=zZ q9;replace hacc:=zZ hacc;replace hI9:=zZ hI9;clear q1 q2 q3 q4 q5 q6 q7 q8 HR;go_wp2_with fail;refine bodyPost_ret (v:=.tuple #[D (some ⟨g,0,none⟩) n cap,B C 0]) (by simp[results,results77,go_sem]) rfl ⟨_,by rw[←H0.out.2],by rw[←hacc.out];exact hI9.out,HE.out.trans q9.out⟩
theorem uX{s:aZ}{i:en}{x:dF}{q:gE}{b:List (List Int)}(hq:s.pap[x.var.toNat]?=some q)(hb:s.bk[x.var.toNat]?=some b){t:Nat}{r:ai}(hr:q.ps[t]?=some r) :
  (fC s i d f ld x)[t]?=some (if r.kind=2 then (bQ q.code q.var q.ps b d f ld (dC b (t:Int)) ((bT i.pgs x.cand (dC b (t:Int))).getD ⟨0,0,0,[],⟨0,0⟩⟩).ch).getD t 0 else -1):=by
 rw[Aw hq hb hr];cases bT i.pgs x.cand (dC b (t:Int))<;>rfl
theorem Cz{code var:Int}{ps:List ai}{pgs:List (List Int)}{page:Int}{cs:List Int}:∀x∈bQ code var ps pgs d f ld page cs,aC x:=by
 intro x hx;unfold bQ at hx;split at hx
 ·exact oC _ _ _ x hx
 ·cases hx
theorem DA{l:List Int}(h:∀x∈l,aC x)(k:Nat):aC (l.getD k 0):=by
 unfold List.getD;cases e:l[k]? with
 |none=>exact⟨by decide,by decide⟩
 |some v=>exact h v (zU e)
theorem Bq(s:aZ)(i:en)(d f ld:Int)(x:dF):∀z∈fC s i d f ld x,aC z:=by
 intro z hz;unfold fC at hz;split at hz
 ·obtain⟨k,_,rfl⟩:=zJ.1 hz;split
  ·split
   ·split<;>exact DA Cz _
   ·exact⟨by decide,by decide⟩
  ·exact⟨by decide,by decide⟩
 ·cases hz
theorem km(v vi:Value)(s:aZ)(t:en)(d f ld xa xb xd:Int)(w:World)(hp:p<w.heap.size)(hs:aN p w v s)(ht:bN p w vi t)(hB0:vk s t)(hx:aJ s.xp xa=some ⟨xa,xb,xd⟩)(hd:bM s t ⟨xa,xb,xd⟩=true)(hv:dp d f ld=true)(hn1:t.sts.length≤1000)(hn2:t.pgs.length≤1000) :
  Calls prog 39 #[v,vi,.agg #[B C d,B C f,B C ld],.agg #[B C xa,B C xb,B C xd]] w fun e w'=>(∃vr,e=.returned (.tuple #[vr,B C 0])∧av w' w.heap.size vr (fC s t d f ld ⟨xa,xb,xd⟩))∧ab w w':=by
 obtain⟨i0,hi0,hz0,hz1,hz2⟩:=info_parts Tryz.infoI;have HS0:=zZ hs;have HT0:=zZ ht;obtain⟨vP,vB,vX,rfl,hP,hB,hX,hnum⟩:=hs;obtain⟨AP,nP,cP,rfl,hnP,hcP,hmP,HLP⟩:=hP.open_;obtain⟨AB,nB,cB,rfl,hnB,hcB,hmB,HLB⟩:=hB.open_;obtain⟨AX,nX,cX,rfl,-⟩:=hX.open_;obtain⟨vS,vG,rfl,hS,hG⟩:=ht;obtain⟨AS,nS,cS,rfl,-⟩:=hS.open_;obtain⟨AG,nG,cG,rfl,-⟩:=hG.open_;have hok:=eV.1 hB0.chk;have hxb:=fw hok (bh hx).1;simp only at hxb;obtain⟨xb1,xb2,xb3,xb4,xb5,xb6⟩:=hxb;obtain⟨⟨pc,pv,pps⟩,bk,hpq,hbk,hbb,hvp,-,-⟩:=gQ hok xb3 xb4;simp only at hbb hvp;have hbn:=kJ hbb;have hpn:pps.length≤24∧1≤pps.length:=by unfold d9 at hvp;simp only[yY,decide_eq_true_eq]at hvp;omega
 have hbks:=hok.bks;obtain⟨r,rfl⟩:=zG xb3;have hRl:=ta (s:=s) (i:=t) (x:=⟨xa,xb,(r:Int)⟩) (d:=d) (f:=f) (ld:=ld) hpq hbk;simp only at hRl;have HAP:Bx (∀(j:Nat) (pg:List Int),bk[j]?=some pg→∃y,bT t.pgs xa (j:Int)=some y∧gh pc pv pps bk d f ld (j:Int) y.ch=0∧(bQ pc pv pps bk d f ld (j:Int) y.ch).length=pps.length∧∀u:Nat,(u:Int)∈pg→u<pps.length→∃v,(bQ pc pv pps bk d f ld (j:Int) y.ch)[u]?=some v∧(fC s t d f ld ⟨xa,xb,(r:Int)⟩)[u]?=some v):=⟨fun j pg hj=>by obtain⟨y,hy,hl,ha⟩:=uJ hB0 hx hpq hbk hd hj;have:=sP hB0 hx hpq hbk hv hj hy hl ha;exact⟨y,hy,this.1,this.2.1,this.2.2⟩⟩
 have HAI:Bx (∀(u:Nat) (r':ai),pps[u]?=some r'→(fC s t d f ld ⟨xa,xb,(r:Int)⟩)[u]?=some (if r'.kind=2 then (bQ pc pv pps bk d f ld (dC bk (u:Int)) ((bT t.pgs xa (dC bk (u:Int))).getD ⟨0,0,0,[],⟨0,0⟩⟩).ch).getD u 0 else -1)):=⟨fun u r' hu=>uX (s:=s) (i:=t) (x:=⟨xa,xb,(r:Int)⟩) (q:=⟨pc,pv,pps⟩) (b:=bk) hpq hbk hu⟩
 have hRI:=Bq s t d f ld ⟨xa,xb,(r:Int)⟩;obtain⟨R,hR⟩:=nm (fC s t d f ld ⟨xa,xb,(r:Int)⟩);rw[←hR]at hRl HAP HAI hRI;have HRI:=zZ hRI;rw[←hR];rw[yR]at hpq hbk;have hrP:r<nP:=by have:=HLP.out;omega
 have hrB:r<nB:=by have:=HLB.out;omega
 obtain⟨bP,oP,_,_,rfl,-⟩:=hP.at_ hrP;obtain⟨bB,oB,_,_,rfl,-⟩:=hB.at_ hrB;obtain⟨Aq,nq,cq,q0,q1,q2,hIQ,hqc,hqv⟩:=gj hP hpq (zE w).xt;obtain⟨Ab,nb,cb,b0,hIB,HNB⟩:=dQ hB hbk (zE w).xt;simp only at q0 q1 q2 hIQ hqc hqv;obtain⟨_,_,_,e9,-,-,hmq,HNQ⟩:=hIQ.open_;cases e9;have HIQ:=zZ hIQ;have HIB:=zZ hIB;have HBB:=zZ hbb;have HRL:=zZ hRl;have HHA:=zZ hB0.ascP;have hnb:nb≤12∧1≤nb:=by have:=HNB.out;omega
 have hnq:nq≤24∧1≤nq:=by have:=HNQ.out;omega
 obtain⟨hnb1,hnb2⟩:=hnb;obtain⟨hnq1,hnq2⟩:=hnq;have HN:Bx (t.sts.length≤1000∧t.pgs.length≤1000):=⟨⟨hn1,hn2⟩⟩
 clear hP hB hX hnum hS hG hB0 hx hd hv hok hpq hbk hbb hvp hbn hpn hbks hR hRl hRI hIQ hIB hqc hqv hn1 hn2 HLP HLB;obtain⟨w1,hw1⟩:=nm (((((w.alloc (.cells #[B C s.num,D (some ⟨bP,oP,none⟩) nP cP,D (some ⟨bB,oB,none⟩) nB cB,D AX nX cX] 27)).alloc (.cells #[D AS nS cS,D AG nG cG] 31)).alloc (.cells #[B C d,B C f,B C ld] 46)).alloc (.cells #[B C xa,B C xb,B C (r:Int)] 83)):World);have HF:Bx (ae w w1 [(w.heap.size,#[B C s.num,D (some ⟨bP,oP,none⟩) nP cP,D (some ⟨bB,oB,none⟩) nB cB,D AX nX cX],27),(w.heap.size+1,#[D AS nS cS,D AG nG cG],31),(w.heap.size+1+1,#[B C d,B C f,B C ld],46),(w.heap.size+1+1+1,#[B C xa,B C xb,B C (r:Int)],83)]):=⟨by rw[hw1];exact ((((ae.start w).push _ _ rfl).push _ _ (by simp)).push _ _ (by simp)).push _ _ (by simp)⟩
 go_enter func39,ntmps39
 go_upto_region 1 with (fail)
 rw[←hw1];clear hw1;go_cut [10,11] (fun s1 s2 we=>∃gP gB:Nat,s1=.pointer (some ⟨gP,0,none⟩)∧s2=.pointer (some ⟨gB,0,none⟩)∧Bx (ae w we [(w.heap.size,#[B C s.num,D (some ⟨bP,oP,none⟩) nP cP,D (some ⟨bB,oB,none⟩) nB cB,D AX nX cX],27),(w.heap.size+1,#[D AS nS cS,D AG nG cG],31),(w.heap.size+1+1,#[B C d,B C f,B C ld],46),(w.heap.size+1+1+1,#[B C xa,B C xb,B C (r:Int)],83),(gP,#[B C pc,B C pv,D Aq nq cq],89),(gB,#[D Ab nb cb],92)]))
 case first =>
  refine zR 15 (fun w'=>ae w w' [(w.heap.size,#[B C s.num,D (some ⟨bP,oP,none⟩) nP cP,D (some ⟨bB,oB,none⟩) nB cB,D AX nX cX],27),(w.heap.size+1,#[D AS nS cS,D AG nG cG],31),(w.heap.size+1+1,#[B C d,B C f,B C ld],46),(w.heap.size+1+1+1,#[B C xa,B C xb,B C (r:Int)],83)]) ?_;have kS:(fun w'=>ae w w' [(w.heap.size,#[B C s.num,D (some ⟨bP,oP,none⟩) nP cP,D (some ⟨bB,oB,none⟩) nB cB,D AX nX cX],27),(w.heap.size+1,#[D AS nS cS,D AG nG cG],31),(w.heap.size+1+1,#[B C d,B C f,B C ld],46),(w.heap.size+1+1+1,#[B C xa,B C xb,B C (r:Int)],83)]) w1.drew:=HF.out.drew;have kD:ab w1 w1.drew:=(zE _).drew;obtain⟨wz0,hwz0⟩:=nm (w1.drew:World);rw[←hwz0]at kS kD⊢;clear hwz0;refine zS 12 [(0,21),(1,22),(2,23),(3,24),(4,25),(5,26),(6,27),(7,28),(8,29),(9,30),(10,31),(11,32)] kS ?_;iterate 12 (apply zT;exact⟨rfl,rfl⟩;(·intro wk hk;have z1:=(hk.at_ 0 rfl).c 1 rfl;have z2:=(hk.at_ 0 rfl).c 2 rfl;have x2:=(hk.at_ 3 rfl).c 2 rfl;(replace q0:=hk.xt.cell q0);(replace q1:=hk.xt.cell q1);(replace q2:=hk.xt.cell q2);(replace b0:=hk.xt.cell b0);go_simp;try with_reducible rfl);simp only[kA];exact rfl)
  refine zN ?_;have HZ0:Bx (ae w wz0 [(w.heap.size,#[B C s.num,D (some ⟨bP,oP,none⟩) nP cP,D (some ⟨bB,oB,none⟩) nB cB,D AX nX cX],27),(w.heap.size+1,#[D AS nS cS,D AG nG cG],31),(w.heap.size+1+1,#[B C d,B C f,B C ld],46),(w.heap.size+1+1+1,#[B C xa,B C xb,B C (r:Int)],83)]):=⟨kS⟩
  refine bD 12 13 (by kernel_rfl) rfl rfl (fun K hK=>?_) (fun K hK=>?_)
  ·go_simp;obtain⟨wz1,hwz1⟩:=nm ((wz0.alloc (.cells #[B C 0,B C 0,D none 0 0] 89)):World);obtain⟨gz1,hgz1⟩:=nm wz0.heap.size;have HZ1:Bx (ae w wz1 [(w.heap.size,#[B C s.num,D (some ⟨bP,oP,none⟩) nP cP,D (some ⟨bB,oB,none⟩) nB cB,D AX nX cX],27),(w.heap.size+1,#[D AS nS cS,D AG nG cG],31),(w.heap.size+1+1,#[B C d,B C f,B C ld],46),(w.heap.size+1+1+1,#[B C xa,B C xb,B C (r:Int)],83),(gz1,#[B C 0,B C 0,D none 0 0],89)]):=⟨by rw[hwz1];exact HZ0.out.push _ _ hgz1.symm⟩
   rw[←hwz1,←hgz1];clear hwz1 hgz1;clear kS;have kS:=HZ1.out.take 4;refine hK.out _ _ (fun _=>kS) ?_;clear hK K;try simp only[kA]
   refine zO 13 (fun K hK=>?_);go_simp;obtain⟨wz2,hwz2⟩:=nm ((wz1.alloc (.cells #[D none 0 0] 92)):World);obtain⟨gz2,hgz2⟩:=nm wz1.heap.size;have HZ2:Bx (ae w wz2 [(w.heap.size,#[B C s.num,D (some ⟨bP,oP,none⟩) nP cP,D (some ⟨bB,oB,none⟩) nB cB,D AX nX cX],27),(w.heap.size+1,#[D AS nS cS,D AG nG cG],31),(w.heap.size+1+1,#[B C d,B C f,B C ld],46),(w.heap.size+1+1+1,#[B C xa,B C xb,B C (r:Int)],83),(gz1,#[B C 0,B C 0,D none 0 0],89),(gz2,#[D none 0 0],92)]):=⟨by rw[hwz2];exact HZ1.out.push _ _ hgz2.symm⟩
   rw[←hwz2,←hgz2];clear hwz2 hgz2;clear kS;have kS:=HZ2.out.take 4;refine hK.out _ _ (fun _=>kS) ?_;clear hK K;try simp only[kA]
   refine zO 14 (fun K hK=>?_);obtain⟨u0,u1,u2⟩:=(HZ2.out.at_ 4 rfl).p3 rfl;have v0:=(HZ2.out.at_ 4 rfl).froz;have v1:=v0;have v2:=v0;go_simp;have hZ3:=HZ2.out.setAll 4 rfl [B C pc,B C pv,D Aq nq cq] rfl;obtain⟨wz3,hwz3⟩:=nm ((((wz2.setCell ⟨gz1,0,none⟩ (B C pc)).setCell ⟨gz1,1,none⟩ (B C pv)).setCell ⟨gz1,2,none⟩ (D Aq nq cq)):World);have HZ3:Bx (ae w wz3 [(w.heap.size,#[B C s.num,D (some ⟨bP,oP,none⟩) nP cP,D (some ⟨bB,oB,none⟩) nB cB,D AX nX cX],27),(w.heap.size+1,#[D AS nS cS,D AG nG cG],31),(w.heap.size+1+1,#[B C d,B C f,B C ld],46),(w.heap.size+1+1+1,#[B C xa,B C xb,B C (r:Int)],83),(gz1,#[B C pc,B C pv,D Aq nq cq],89),(gz2,#[D none 0 0],92)]):=⟨by rw[hwz3];exact hZ3⟩
   rw[←hwz3];clear hwz3 hZ3 u0 v0 u1 v1 u2 v2;clear kS;have kS:=HZ3.out.take 4;refine hK.out _ _ (fun _=>kS) ?_;clear hK K;try simp only[kA]
   refine zO 15 (fun K hK=>?_);have u0:=(HZ3.out.at_ 5 rfl).c 0 rfl;have v0:=(HZ3.out.at_ 5 rfl).froz;go_simp;have hZ4:=HZ3.out.setAll 5 rfl [D Ab nb cb] rfl;obtain⟨wz4,hwz4⟩:=nm ((wz3.setCell ⟨gz2,0,none⟩ (D Ab nb cb)):World);have HZ4:Bx (ae w wz4 [(w.heap.size,#[B C s.num,D (some ⟨bP,oP,none⟩) nP cP,D (some ⟨bB,oB,none⟩) nB cB,D AX nX cX],27),(w.heap.size+1,#[D AS nS cS,D AG nG cG],31),(w.heap.size+1+1,#[B C d,B C f,B C ld],46),(w.heap.size+1+1+1,#[B C xa,B C xb,B C (r:Int)],83),(gz1,#[B C pc,B C pv,D Aq nq cq],89),(gz2,#[D Ab nb cb],92)]):=⟨by rw[hwz4];exact hZ4⟩
   rw[←hwz4];clear hwz4 hZ4 u0 v0;clear kS;have kS:=HZ4.out.take 4;refine hK.out _ _ (fun h=>absurd rfl h) ?_;clear hK K;refine zD ?_;go_wp2_with fail;have HFz:=HZ4;go_meet
   exact⟨gz1,gz2,rfl,rfl,HFz⟩
  ·go_simp;obtain⟨wz5,hwz5⟩:=nm ((wz0.alloc (.cells #[D none 0 0] 92)):World);obtain⟨gz5,hgz5⟩:=nm wz0.heap.size;have HZ5:Bx (ae w wz5 [(w.heap.size,#[B C s.num,D (some ⟨bP,oP,none⟩) nP cP,D (some ⟨bB,oB,none⟩) nB cB,D AX nX cX],27),(w.heap.size+1,#[D AS nS cS,D AG nG cG],31),(w.heap.size+1+1,#[B C d,B C f,B C ld],46),(w.heap.size+1+1+1,#[B C xa,B C xb,B C (r:Int)],83),(gz5,#[D none 0 0],92)]):=⟨by rw[hwz5];exact HZ0.out.push _ _ hgz5.symm⟩
   rw[←hwz5,←hgz5];clear hwz5 hgz5;clear kS;have kS:=HZ5.out.take 4;refine hK.out _ _ (fun _=>kS) ?_;clear hK K;try simp only[kA]
   refine zO 12 (fun K hK=>?_);go_simp;obtain⟨wz6,hwz6⟩:=nm ((wz5.alloc (.cells #[B C 0,B C 0,D none 0 0] 89)):World);obtain⟨gz6,hgz6⟩:=nm wz5.heap.size;have HZ6:Bx (ae w wz6 [(w.heap.size,#[B C s.num,D (some ⟨bP,oP,none⟩) nP cP,D (some ⟨bB,oB,none⟩) nB cB,D AX nX cX],27),(w.heap.size+1,#[D AS nS cS,D AG nG cG],31),(w.heap.size+1+1,#[B C d,B C f,B C ld],46),(w.heap.size+1+1+1,#[B C xa,B C xb,B C (r:Int)],83),(gz5,#[D none 0 0],92),(gz6,#[B C 0,B C 0,D none 0 0],89)]):=⟨by rw[hwz6];exact HZ5.out.push _ _ hgz6.symm⟩
   rw[←hwz6,←hgz6];clear hwz6 hgz6;clear kS;have kS:=HZ6.out.take 4;refine hK.out _ _ (fun _=>kS) ?_;clear hK K;try simp only[kA]
   refine zO 14 (fun K hK=>?_);obtain⟨u0,u1,u2⟩:=(HZ6.out.at_ 5 rfl).p3 rfl;have v0:=(HZ6.out.at_ 5 rfl).froz;have v1:=v0;have v2:=v0;go_simp;have hZ7:=HZ6.out.setAll 5 rfl [B C pc,B C pv,D Aq nq cq] rfl;obtain⟨wz7,hwz7⟩:=nm ((((wz6.setCell ⟨gz6,0,none⟩ (B C pc)).setCell ⟨gz6,1,none⟩ (B C pv)).setCell ⟨gz6,2,none⟩ (D Aq nq cq)):World);have HZ7:Bx (ae w wz7 [(w.heap.size,#[B C s.num,D (some ⟨bP,oP,none⟩) nP cP,D (some ⟨bB,oB,none⟩) nB cB,D AX nX cX],27),(w.heap.size+1,#[D AS nS cS,D AG nG cG],31),(w.heap.size+1+1,#[B C d,B C f,B C ld],46),(w.heap.size+1+1+1,#[B C xa,B C xb,B C (r:Int)],83),(gz5,#[D none 0 0],92),(gz6,#[B C pc,B C pv,D Aq nq cq],89)]):=⟨by rw[hwz7];exact hZ7⟩
   rw[←hwz7];clear hwz7 hZ7 u0 v0 u1 v1 u2 v2;clear kS;have kS:=HZ7.out.take 4;refine hK.out _ _ (fun _=>kS) ?_;clear hK K;try simp only[kA]
   refine zO 15 (fun K hK=>?_);have u0:=(HZ7.out.at_ 4 rfl).c 0 rfl;have v0:=(HZ7.out.at_ 4 rfl).froz;go_simp;have hZ8:=HZ7.out.setAll 4 rfl [D Ab nb cb] rfl;obtain⟨wz8,hwz8⟩:=nm ((wz7.setCell ⟨gz5,0,none⟩ (D Ab nb cb)):World);have HZ8:Bx (ae w wz8 [(w.heap.size,#[B C s.num,D (some ⟨bP,oP,none⟩) nP cP,D (some ⟨bB,oB,none⟩) nB cB,D AX nX cX],27),(w.heap.size+1,#[D AS nS cS,D AG nG cG],31),(w.heap.size+1+1,#[B C d,B C f,B C ld],46),(w.heap.size+1+1+1,#[B C xa,B C xb,B C (r:Int)],83),(gz5,#[D Ab nb cb],92),(gz6,#[B C pc,B C pv,D Aq nq cq],89)]):=⟨by rw[hwz8];exact hZ8⟩
   rw[←hwz8];clear hwz8 hZ8 u0 v0;clear kS;have kS:=HZ8.out.take 4;refine hK.out _ _ (fun h=>absurd rfl h) ?_;clear hK K;refine zD ?_;go_wp2_with fail;have HFz:Bx (ae w wz8 [(w.heap.size,#[B C s.num,D (some ⟨bP,oP,none⟩) nP cP,D (some ⟨bB,oB,none⟩) nB cB,D AX nX cX],27),(w.heap.size+1,#[D AS nS cS,D AG nG cG],31),(w.heap.size+1+1,#[B C d,B C f,B C ld],46),(w.heap.size+1+1+1,#[B C xa,B C xb,B C (r:Int)],83),(gz6,#[B C pc,B C pv,D Aq nq cq],89),(gz5,#[D Ab nb cb],92)]):=⟨ae.swap (L:=[(w.heap.size,#[B C s.num,D (some ⟨bP,oP,none⟩) nP cP,D (some ⟨bB,oB,none⟩) nB cB,D AX nX cX],27),(w.heap.size+1,#[D AS nS cS,D AG nG cG],31),(w.heap.size+1+1,#[B C d,B C f,B C ld],46),(w.heap.size+1+1+1,#[B C xa,B C xb,B C (r:Int)],83)]) HZ8.out⟩
   go_meet
   exact⟨gz6,gz5,rfl,rfl,HFz⟩
 case rest =>
  obtain⟨gP,gB,rfl,rfl,HE0⟩:=hcut;have p2:(wc.alloc (.cells #[B C (-1)] 3)).cell? ⟨gP,2,none⟩=some (D Aq nq cq):=((zE wc).alloc _).cell ((HE0.out.at_ 4 rfl).c 2 rfl);go_upto_region 3 with (go_at_call 76;refine (oA wc.heap.size 0 1 nq (-1) _ hnq1 ((Bk.new wc #[B C (-1)] 3).c 0 rfl) (by omega) (by omega)).mono ?_;rintro e w3 ⟨v3,rfl,hv3,hx3⟩;obtain⟨gA,cA,rfl,hgA,hgA2⟩:=aQ hv3 hnq2)
  have hx3':ab wc w3:=((zE _).alloc _).trans hx3;have hiv:av w3 wc.heap.size (D (some ⟨gA,0,none⟩) nq cA) (fG R 0):=by rw[xh,show R.length=nq by rw[HRL.out,HNQ.out]];exact⟨by simpa using bo hv3 (by simp),fun x hx=>by obtain rfl:=List.eq_of_mem_replicate hx;exact⟨by decide,by decide⟩,by simp;omega⟩
  have hlz:(fG R 0).length=nq:=by rw[CB (yK _),HRL.out,HNQ.out]
  obtain⟨cu3,hb3,ha3,hg3⟩:=hiv.ans hlz;have HF3:Bx (ae w w3 [(w.heap.size,#[B C s.num,D (some ⟨bP,oP,none⟩) nP cP,D (some ⟨bB,oB,none⟩) nB cB,D AX nX cX],27),(w.heap.size+1,#[D AS nS cS,D AG nG cG],31),(w.heap.size+1+1,#[B C d,B C f,B C ld],46),(w.heap.size+1+1+1,#[B C xa,B C xb,B C (r:Int)],83),(gP,#[B C pc,B C pv,D Aq nq cq],89),(gB,#[D Ab nb cb],92),(gA,cu3,3)]):=⟨(HE0.out.ext hx3').add hb3 (yL HE0.out.xt.size hg3) fun k x hk=>by have:=HE0.out.bl.lt k (b:=x.1) (cs:=x.2.1) (t:=x.2.2) hk;omega⟩
  have HA3:=zZ ha3;have hgw:w.heap.size≤gA:=yL HE0.out.xt.size hg3;clear hx3 hx3' hv3 hiv hlz hb3 ha3 hgA hgA2 hg3 HE0 HF p2;have HSA:=zZ (HS0.out.re hgw);have HTA:=zZ (HT0.out.re hgw);have HQA:=zZ (kr.re HIQ.out hgw);have HBA:=zZ (kL.re HIB.out hgw);have c0:=(HF3.out.at_ 5 rfl).c 0 rfl;go_wp2_with fail;clear c0;go_loopw [41] (fun s41 wr=>∃j:Nat,s41=B C j∧j≤nb∧Bx (∃cur,ae w wr [(w.heap.size,#[B C s.num,D (some ⟨bP,oP,none⟩) nP cP,D (some ⟨bB,oB,none⟩) nB cB,D AX nX cX],27),(w.heap.size+1,#[D AS nS cS,D AG nG cG],31),(w.heap.size+1+1,#[B C d,B C f,B C ld],46),(w.heap.size+1+1+1,#[B C xa,B C xb,B C (r:Int)],83),(gP,#[B C pc,B C pv,D Aq nq cq],89),(gB,#[D Ab nb cb],92),(gA,cur,3)]∧Dd cur nq cA (fG R (bC bk j)))) (fun j _=>nb-(intOf j).toNat)
  case atStart=>exact⟨0,rfl,by omega,⟨⟨cu3,HF3.out,by rw[oM];exact HA3.out⟩⟩⟩
  case round =>
   obtain⟨j,rfl,hj,HR⟩:=hrel;obtain⟨cur,hfr,hac⟩:=HR.out;have HFr:Bx (ae w wr [(w.heap.size,#[B C s.num,D (some ⟨bP,oP,none⟩) nP cP,D (some ⟨bB,oB,none⟩) nB cB,D AX nX cX],27),(w.heap.size+1,#[D AS nS cS,D AG nG cG],31),(w.heap.size+1+1,#[B C d,B C f,B C ld],46),(w.heap.size+1+1+1,#[B C xa,B C xb,B C (r:Int)],83),(gP,#[B C pc,B C pv,D Aq nq cq],89),(gB,#[D Ab nb cb],92),(gA,cur,3)]):=⟨hfr⟩
   have HAC:Bx (Dd cur nq cA (fG R (bC bk j))):=⟨hac⟩
   clear HR HF3 HA3 hfr hac;by_cases hjn:j<nb
   ·obtain⟨bb,ob,_,_,rfl,-⟩:=HBA.out.at_ hjn;obtain⟨vpg,pg,hcp,hipg,HPG⟩:=bg.page HBA.out hjn;obtain⟨Ap,np,cp,rfl,-,-,hmp,HNP⟩:=hipg.open_;have HIP:=zZ hipg;obtain⟨y,hpf,hpe,hpl,hpv⟩:=HAP.out j pg HPG.out;have HPF:=zZ hpf;have HPE:=zZ hpe;have HPV:=zZ hpv;have HPL:=zZ hpl;replace hcp:=HFr.out.xt.cell hcp;clear hipg hpf hpe hpl hpv;have i0':=(HFr.out.at_ 1 rfl).c 0 rfl;have i1':=(HFr.out.at_ 1 rfl).c 1 rfl;have x0:=(HFr.out.at_ 3 rfl).c 0 rfl;go_upto_region 7 with (go_at_call 40;refine (eH _ t xa (j:Int) _ (p:=gA) (HTA.out.ext HFr.out.xt) HHA.out (by have:=HN.out.2;omega)).mono ?_;rintro e w5 ⟨yc,yg,yt,ys,yq,ych,yA,yn,ycc,rfl,hyd,hyi,hyw,hx5⟩)
    have HYE:Bx (y=⟨yc,yg,yt,ych,⟨ys,yq⟩⟩):=⟨by rw[HPF.out]at hyd;exact hyd⟩
    obtain⟨w6,hw6⟩:=nm ((w5.alloc (.cells #[B C yc,B C yg,B C yt,D yA yn ycc,B C ys,B C yq] 77)):World);obtain⟨gy,hgy⟩:=nm w5.heap.size;have HF6:Bx (ae w w6 [(w.heap.size,#[B C s.num,D (some ⟨bP,oP,none⟩) nP cP,D (some ⟨bB,oB,none⟩) nB cB,D AX nX cX],27),(w.heap.size+1,#[D AS nS cS,D AG nG cG],31),(w.heap.size+1+1,#[B C d,B C f,B C ld],46),(w.heap.size+1+1+1,#[B C xa,B C xb,B C (r:Int)],83),(gP,#[B C pc,B C pv,D Aq nq cq],89),(gB,#[D (some ⟨bb,ob,none⟩) nb cb],92),(gA,cur,3)]):=⟨by rw[hw6];exact (HFr.out.ext hx5).ext ((zE _).alloc _)⟩
    have HB6:Bx (Bk w6 gy #[B C yc,B C yg,B C yt,D yA yn ycc,B C ys,B C yq] 77):=⟨by rw[hw6,hgy];exact Bk.new _ _ _⟩
    have HY6:Bx (ao gA w6 (D yA yn ycc) ych):=⟨by rw[hw6];exact hyi.ext (hx5.alloc _)⟩
    rw[←hw6,←hgy];clear hw6 hgy hx5 hyd hyi hyw HFr i0' i1' x0 hcp;obtain⟨p0,p1,p2⟩:=(HF6.out.at_ 4 rfl).p3 rfl;have c0:=(HF6.out.at_ 5 rfl).c 0 rfl;obtain⟨h0,h1,h2⟩:=(HF6.out.at_ 2 rfl).p3 rfl;have y3:=HB6.out.c 3 rfl;go_upto_region 8 with (go_at_call 77;refine (D7 pc pv d f ld (j:Int) _ _ _ pps bk ych _ (p:=gA) (by have:=(HF6.out.at_ 6 rfl).lt;exact this) (HQA.out.ext (aI.stab gA) HF6.out.xt) (HBA.out.ext (RI.stab gA) HF6.out.xt) HY6.out ⟨by omega,by omega⟩).mono ?_;rintro e w7 ⟨v7,rfl,hi7,hx7⟩;obtain⟨A7,n7,c7,rfl,-,-,hm7,HL7⟩:=hi7.open_)
    have HF7:=bx (HF6.out.ext hx7);have HI7:Bx (ao gA w7 (D A7 n7 c7) (bQ pc pv pps bk d f ld (j:Int) ych)):=⟨hi7⟩
    obtain rfl:=HYE.out;have HPE2:=HPE.out;have HPV2:=HPV;have HPL2:=HPL;simp only at HPE2 HPV2 HPL2;rw[HPE2];have hn7:nq=n7:=by have:=HL7.out;have:=HPL2.out;have:=HNQ.out;omega
    subst hn7;clear HPE2 HPE HPV HPL HPF hi7 hx7 HF6 HB6 HY6 HYE p0 p1 p2 c0 h0 h1 h2 y3 HL7;go_upto_region 10 with (fail)
    go_wp2_with fail;obtain⟨wo,rfl⟩:=nm (w7:World);go_loopw [69] (fun s69 wr=>∃m:Nat,s69=B C m∧m≤np∧Bx (∃cur,ae w wr [(w.heap.size,#[B C s.num,D (some ⟨bP,oP,none⟩) nP cP,D (some ⟨bB,oB,none⟩) nB cB,D AX nX cX],27),(w.heap.size+1,#[D AS nS cS,D AG nG cG],31),(w.heap.size+1+1,#[B C d,B C f,B C ld],46),(w.heap.size+1+1+1,#[B C xa,B C xb,B C (r:Int)],83),(gP,#[B C pc,B C pv,D Aq nq cq],89),(gB,#[D (some ⟨bb,ob,none⟩) nb cb],92),(gA,cur,3)]∧Dd cur nq cA (fG R (bC bk j+m))∧ao gA wr (D A7 nq c7) (bQ pc pv pps bk d f ld (j:Int) ych))) (fun m _=>np-(intOf m).toNat)
    case atStart=>exact⟨0,rfl,by omega,⟨⟨cur,HF7.out,HAC.out,HI7.out⟩⟩⟩
    case round =>
     obtain⟨m,rfl,hm,HR⟩:=hrel;obtain⟨cu8,hfr,hac,hir⟩:=HR.out;have HF8:Bx (ae w wr [(w.heap.size,#[B C s.num,D (some ⟨bP,oP,none⟩) nP cP,D (some ⟨bB,oB,none⟩) nB cB,D AX nX cX],27),(w.heap.size+1,#[D AS nS cS,D AG nG cG],31),(w.heap.size+1+1,#[B C d,B C f,B C ld],46),(w.heap.size+1+1+1,#[B C xa,B C xb,B C (r:Int)],83),(gP,#[B C pc,B C pv,D Aq nq cq],89),(gB,#[D (some ⟨bb,ob,none⟩) nb cb],92),(gA,cu8,3)]):=⟨hfr⟩
     have HA8:Bx (Dd cu8 nq cA (fG R (bC bk j+m))):=⟨hac⟩
     have HI8:Bx (ao gA wr (D A7 nq c7) (bQ pc pv pps bk d f ld (j:Int) ych)):=⟨hir⟩
     clear HR HF7 HAC HI7 hfr hac hir;by_cases hmn:m<np
     ·obtain⟨bp,op,z,rfl,hcz,HZ,-,-⟩:=HIP.out.at_ hmn;replace hcz:=HF8.out.xt.cell hcz;obtain⟨hz1,hz2⟩:=FU HBB.out HPG.out HZ.out;obtain⟨u,hu⟩:=nm (bC bk j+m);rw[←hu]at hz1 hz2 HA8;subst hz1;have hun:u<nq:=by have:=HNQ.out;omega
      obtain⟨vv,hv1,hv2⟩:=HPV2.out u (zU HZ.out) hz2;obtain⟨b7,o7,z7,rfl,hc7,HZ7,-,-⟩:=HI8.out.at_ hun;obtain rfl:vv=z7:=by have:=HZ7.out;rw[hv1]at this;injection this
      have HAN:=zZ (HA8.out.put hun vv);have hset:=C6 hv2;have HST:=zZ hset;have HU:=zZ hu;have hg0:wr.cell? ⟨gA,u,none⟩=some _:=(HF8.out.at_ 6 rfl).cell (HA8.out.get (v:=(fG R u)[u]'(by rw[HA8.out.len];exact hun)) (zW _));have hg1:=(HF8.out.at_ 6 rfl).froz u;have hcA:nq≤cA:=HA8.out.le;clear hz2 hv1 hv2 hset hu HZ7;go_wp2_with fail;have hF9:=HF8.out.set 6 rfl u (B C vv);have hI9:=HI8.out.xt (XT.setCell (XT.refl gA wr) (a:=⟨gA,u,none⟩) rfl (B C vv));go_roundw
      case rel=>exact⟨m+1,by go_num,by omega,⟨⟨_,hF9,by rw[←Nat.add_assoc,←HU.out,←HST.out];exact HAN.out,hI9⟩⟩⟩
      case measure=>simp[intOf];omega
     ·obtain rfl:m=np:=by omega
      have HCS:=zZ (show bC bk (j+1)=bC bk j+m by rw[pe HPG.out,HNP.out]);go_wp2_with fail;go_roundw
      case rel=>exact⟨j+1,by go_num,by omega,⟨⟨cu8,HF8.out,by rw[HCS.out];exact HA8.out⟩⟩⟩
      case measure=>simp[intOf];omega
   ·obtain rfl:j=nb:=by omega
    have hcl:bC bk j=pps.length:=by rw[←HNB.out];exact ow HBB.out
    have HFI:Bx (av wr w.heap.size (D (some ⟨gA,0,none⟩) nq cA) R):=⟨by have h:=HAC.out;rw[hcl,←HRL.out,CR]at h;exact h.intV (HFr.out.at_ 6 rfl) hgw HRI.out (by rw[HRL.out,HNQ.out];omega)⟩
    go_wp2_with fail;refine bodyPost_ret (v:=.tuple #[D (some ⟨gA,0,none⟩) nq cA,B C 0]) (by simp[results,results39,go_sem]) rfl ⟨⟨D (some ⟨gA,0,none⟩) nq cA,rfl,HFI.out⟩,HFr.out.xt⟩
theorem Tryz.infoScr:(prog.info? 54).map (fun i=>(i.zero,i.size,i.bytes))=some (some (.agg #[B C 0,B C 0,B C 0,B C 0,B C 0,D none 0 0,D none 0 0]),7,88):=by kernel_rfl
def ws(y:oy×Value×Value):List Value:=[B C y.1.num,B C y.1.pap,B C y.1.cand,B C y.1.cen,B C y.1.var,y.2.1,y.2.2]
def Ha(base:Nat)(w:World)(y:oy×Value×Value):Prop:=av w base y.2.1 y.1.pgs∧av w base y.2.2 y.1.ans
def d8(base:Nat)(w:World)(v:Value)(ys:List (oy×Value×Value)):Prop:=dq base 54 7 ws (Ha base) w v ys
section
variable {p base:Nat} {w w' w8 wx:World} {v:Value} {ys:List (oy×Value×Value)} {l:List Int}
theorem d8.isS(h:d8 base w v ys)(hp:p<base):fF p w v (ys.map Prod.fst) :=
 dq.isS Prod.fst h hp (by decide) (fun y _=>rfl) fun y _ hy=>⟨y.2.1,y.2.2,rfl,av.isI hy.1 hp,av.isI hy.2 hp⟩
theorem d8.ext(h:d8 base w v ys)(hx:ab w w'):d8 base w' v ys:=dq.ext h (fun y hy=>⟨hy.1.ext hx,hy.2.ext hx⟩) hx
theorem av.keep{gs:Nat}(h:av w base v l)(hg:w.heap.size≤gs)(hx0:ab w w8)(hx:XT gs w8 wx):av wx base v l :=
 ⟨aE (ac h.1 hx0) hx fun k hk e=>by have:=(h.1.lt k hk).2;injection e with e;omega,h.2⟩
theorem d8.keep{gs:Nat}(h:d8 base w v ys)(hg:w.heap.size≤gs)(hx0:ab w w8)(hx:XT gs w8 wx):d8 base wx v ys :=
 ⟨aE (ac h.own hx0) hx fun k hk e=>by have:=(h.own.own.lt k hk).2;injection e with e;omega,fun y hy=>⟨(h.el y hy).1.keep hg hx0 hx,(h.el y hy).2.keep hg hx0 hx⟩⟩
end
theorem oz(i:en)(c:Int)(m:Nat):ee i c (m+1)=ee i c m++[((bT i.pgs c (m:Int)).map Pg.cont).getD 0]:=by unfold ee;rw[yC,yN];rfl
theorem fY(i:en)(c:Int)(m:Nat):(ee i c m).length=m:=by unfold ee;simp
theorem Bv{o:Option Pg}{yc yg yt ys yq:Int}{ych:List Int}(h:o.getD ⟨0,0,0,[],⟨0,0⟩⟩=⟨yc,yg,yt,ych,⟨ys,yq⟩⟩):(o.map Pg.cont).getD 0=yt:=by
 cases o with
 |none=>simp only[Option.getD_none]at h;simp only[Option.map_none,Option.getD_none];injection h
 |some y=>simp only[Option.getD_some]at h;rw[h];rfl
noncomputable def mA(s:aZ)(i:en)(d f ld:Int):Int:=if aV s i=true then (if dp d f ld=true then 0 else 2) else 1
noncomputable def kG(s:aZ)(i:en)(d f ld:Int):List oy:=if aV s i=true∧dp d f ld=true then Do s i d f ld else []
def Ae(w:World)(er:Int)(l:List oy)(e:Ending)(w':World):Prop:=(∃vr ys,e=.returned (.tuple #[vr,B C er])∧d8 w.heap.size w' vr ys∧ys.map Prod.fst=l)∧ab w w'
theorem ll(c st:Int)(A:Option Addr)(n cc:Nat)(W:World):(Instr.field 41 (.agg #[B C c,B C st,D A n cc]) 1).run prog W=.ok (B C st) W:=by kernel_rfl
theorem iI{s:aZ}{i:en}{x:dF}(h:bM s i x=true):(bW s i x).state=1:=by unfold bM at h;exact of_decide_eq_true h
theorem lm{s:aZ}{i:en}{x:dF}(h:bM s i x=false):(bW s i x).state≠1:=by unfold bM at h;exact of_decide_eq_false h
end Go.Proofs.YtjgfgdcaocbfhaaGreat

