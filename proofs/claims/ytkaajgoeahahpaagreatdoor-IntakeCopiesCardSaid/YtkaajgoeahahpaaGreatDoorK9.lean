import Derived.Lib.BufferRead
import Derived.Test.YtkaajgoeahahpaaGreatDoorK8
set_option linter.all false
set_option maxRecDepth 100000
set_option maxHeartbeats 0
namespace Go.Proofs.YtkaajgoeahahpaaGreatDoor
open Go.RowKit _root_.Go.Proofs.Tryz
variable {fuel k n:Nat} {v:Value} {s:List UInt8} {listed:Array Bool}
theorem Tryz.infoU8:(prog.info? 5).map (fun i=>(i.zero,i.size,i.bytes))=some (some (.int .u8 0),1,1):=by kernel_rfl
theorem Fg{α:Type}{l:List α}{x:α}(h:l[k]?=some x):(l.drop k)=x::l.drop (k+1):=by obtain⟨hk,rfl⟩:=zY.1 h;exact vZ hk
theorem zd{l:List UInt8}{x:UInt8}(h:l[k]?=some x):(l.drop (k+1)).reverse++[x]=(l.drop k).reverse:=by rw[Fg h,List.reverse_cons]
theorem GF(s:ByteArray)(w:World)(hs:s.size<=140737488351232) :
  Calls prog 146 #[.string s] w fun e w'=>∃t,e=.returned (.string t)/\bl t=(bl s).reverse/\ab w w':=by
 have HL:=zZ (aO s);go_enter func146,ntmps146
 go_wp2_with fail;go_loopw [4] (fun i wr=>∃k:Nat,k<=s.size/\i=.int .i64 ((k:Int)-1)/\Hid (Lib.IsBuilderF 139 5 w.heap.size w.heap.size (Lib.byteCells ((bl s).drop k).reverse) wr)/\Hid (ab w wr)) (fun i _=>((intOf i)+1).toNat)
 case atStart=>exact⟨s.size,zX _,rfl,by show Lib.IsBuilderF _ _ _ _ _ _;rw[uF (by rw[HL.out];exact zX _)];exact Lib.IsBuilderF.of (Lib.fresh_isBuilder _ _ w),(zE _).alloc _⟩
 case round =>
  obtain⟨k,hk,rfl,HB,HE⟩:=hrel;have hsz:=HE.out.size;by_cases h0:0<k
  ·obtain⟨j,rfl⟩:∃j,k=j+1:=⟨k-1,by omega⟩
   have hj:j<s.size:=by omega
   have HX:=zZ (nJ hj);have e1:(((j+1:Nat):Int)-1)=(j:Int):=by omega
   rw[e1];clear e1;go_wp2_with fail;refine (rt w.heap.size w.heap.size _ _ _ HB.out (by rw[Lib.byteCells_length,List.length_reverse,wD,HL.out];omega) hsz).mono ?_;rintro e w1 ⟨rfl,h1,b1,k1⟩;have HB1:Hid (Lib.IsBuilderF 139 5 w.heap.size w.heap.size (Lib.byteCells ((bl s).drop j).reverse) w1):=by
    show Lib.IsBuilderF _ _ _ _ _ _
    rw[<-zd HX.out,Lib.byteCells_append];exact Or.inr h1
   have HE1:Hid (ab w w1):=xD HE.out b1;clear h1 b1 k1 HB HE;go_wp2_with fail;go_roundw
   case rel=>exact⟨j,by omega,rfl,HB1,HE1⟩
   case measure=>simp[intOf]
  ·obtain rfl:k=0:=by omega
   go_wp2_with fail;refine (Ea w.heap.size w.heap.size _ _ HB.out hsz).mono ?_;rintro e w1 ⟨rfl,h1,b1,k1⟩;clear h1 k1;go_wp2_with fail;go_ret
   exact⟨_,rfl,by rw[Dz],xD HE.out b1⟩
theorem Fl(w:World){base:Nat}{l:List UInt8}(h:w.ownsRow base 5 1 v n (Lib.byteCells l))(hn:n<=1000000) :
  ∃t,(convert 137 9 v).run prog w=.ok (.string t) w/\bl t=l:=by
 have hn1:n=l.length:=by have:=h.1;rw[Lib.byteCells_length]at this;omega
 rcases h.2 with ⟨rfl,hnil⟩|⟨g,cap,cur,rfl,hg,hh,hnc,hcm,hcs,htk⟩
 ·obtain rfl:l=[]:=xZ (by omega);exact⟨⟨#[]⟩,Lib.run_convert_nil_bytes w _ _ 5 0 underlying137 underlying5 underlying9,rfl⟩
 ·subst hn1;refine⟨⟨l.toArray⟩,?_,Dz l⟩;exact run_convert_bytes_back w _ _ 5 ⟨g,0,none⟩ cap l underlying137 underlying5 underlying9 (fun j hj=>Lib.bytes_of_row hh (by simpa using htk) j hj)
theorem pk(s:ByteArray)(w:World)(hs:s.size<=1000000) :
  Calls prog 65 #[.string s] w fun e w'=>∃t,e=.returned (.string t)/\bl t=(bl s).reverse/\ab w w':=by
 have HL:=zZ (aO s);obtain⟨i0,hi0,hz0,hz1,hz2⟩:=info_parts Tryz.infoU8;go_enter func65,ntmps65
 go_wp2_with fail;go_loopw [3,4] (fun v i wr=>∃k:Nat,k<=s.size/\i=.int .i64 ((k:Int)-1)/\Hid (wr.ownsRow w.heap.size 5 1 v (s.size-k) (Lib.byteCells ((bl s).drop k).reverse))/\Hid (ab w wr)) (fun _ i _=>((intOf i)+1).toNat)
 case atStart=>exact⟨s.size,zX _,rfl,by show World.ownsRow _ _ _ _ _ _ _;rw[uF (by rw[HL.out];exact zX _),vH];exact yZ _ _ _ _,zE _⟩
 case round =>
  obtain⟨k,hk,rfl,HO,HE⟩:=hrel;have hsz:=HE.out.size;by_cases h0:0<k
  ·obtain⟨j,rfl⟩:∃j,k=j+1:=⟨k-1,by omega⟩
   have hj:j<s.size:=by omega
   have HX:=zZ (nJ hj);have e1:(((j+1:Nat):Int)-1)=(j:Int):=by omega
   rw[e1];clear e1;go_wp2_with (at_builtin;refine aF _ rfl (.tmp 12) (.tmp 16) 137 rfl w.heap.size 5 i0 _ 1 underlying137 hi0 hz0 hz1 hz2 rfl _ _ _ rfl (HO.out.alloc _) _ _ rfl (ac (heap_alloc_new _ _) rfl) rfl (by omega) (by omega) (by simp;omega) ?_;intro v' w' hown hg);go_roundw
   case rel =>
    refine⟨j,by omega,rfl,?_,?_⟩
    ·show World.ownsRow _ _ _ _ _ _ _
     rw[<-zd HX.out,Lib.byteCells_append,show s.size-j=s.size-(j+1)+1 by omega];exact hown
    ·exact ab.grown (HE.out.alloc _) hg (fun q hq=>aq HO.out q hq)
   case measure=>simp[intOf]
  ·obtain rfl:k=0:=by omega
   obtain⟨t,ht,hb⟩:=Fl wr HO.out (by omega);have HT:=zZ hb;clear hb;go_wp2_with fail;go_ret
   exact⟨_,rfl,by rw[HT.out,uZ],HE.out⟩
theorem mz(s:ByteArray)(c:UInt8)(w:World)(n:Nat)(h:(bl s).count c=n) :
  Calls prog 193 #[.string s,.string ⟨#[c]⟩] w fun e w'=>e=.returned (.int .i64 (n:Int))/\w=w':=by
 subst h;exact Kh s c w
theorem wt{b e:UInt8}{m:Nat}(h1:(s.take 7).count b=n)(h2:(s.drop 67).count e=m):du s b e=(decide (4<=n)&&decide (4<=m)):=by unfold du;rw[h1,h2]
theorem iE(s:ByteArray)(b e:UInt8)(w:World)(hs:s.size=74) :
  Calls prog 145 #[.string s,.string ⟨#[b]⟩,.string ⟨#[e]⟩] w fun r w'=>r=.returned (.bool (du (bl s) b e))/\w=w':=by
 have h74:74<=s.size:=by omega
 have h75:s.size<=74:=by omega
 obtain⟨n,hn⟩:∃n,((bl s).take 7).count b=n:=⟨_,rfl⟩
 obtain⟨m,hm⟩:∃m,((bl s).drop 67).count e=m:=⟨_,rfl⟩
 have HM:=zZ (wt hn hm);have H1:Hid ((bl (s.extract 0 7)).count b=n):=by show _=_;rw[sJ];exact hn
 have H2:Hid ((bl (s.extract 67 s.size)).count e=m):=by show _=_;rw[lF];exact hm
 clear hs hn hm;by_cases h4:4<=n
 ·go_enter func145,ntmps145
  go_wp2_with fail;refine (mz _ b _ n H1.out).mono ?_;rintro r w1 ⟨rfl,rfl⟩;go_wp2_with fail;refine (mz _ e _ m H2.out).mono ?_;rintro r w1 ⟨rfl,rfl⟩;go_wp2_with fail;go_ret
  exact⟨aa (by rw[HM.out];simp[h4];omega),rfl⟩
 ·go_enter func145,ntmps145
  go_wp2_with fail;refine (mz _ b _ n H1.out).mono ?_;rintro r w1 ⟨rfl,rfl⟩;go_wp2_with fail;go_ret
  exact⟨aa (by rw[HM.out];simp[h4]),rfl⟩
def Gb(s:List UInt8)(w:World)(e:Ending)(w':World):Prop:=∃t k,e=.returned (.tuple #[.string t,.int .i64 k])/\k=iM s/\bl t=jm s/\ab w w'
theorem Dx(h:bd s=false):jm s=[]/\iM s=7:=by unfold jm iM;rw[h];exact⟨rfl,rfl⟩
theorem CE(h:bd s=true)(h1:du s 49 48=true):jm s=s/\iM s=0:=by unfold jm iM;rw[h,h1];exact⟨rfl,rfl⟩
theorem rz(h:bd s=true)(h1:du s 49 48=false)(h2:du s 48 49=true):jm s=s.reverse/\iM s=0:=by unfold jm iM;rw[h,h1,h2];exact⟨rfl,rfl⟩
theorem kQ(h:bd s=true)(h1:du s 49 48=false)(h2:du s 48 49=false):jm s=[]/\iM s=26:=by unfold jm iM;rw[h,h1,h2];exact⟨rfl,rfl⟩
theorem BX(s:ByteArray)(w:World):Calls prog 105 #[.string s] w (Gb (bl s) w):=by
 rcases yS (bd (bl s)) with hb|hb
 ·have hs:s.size=74:=by rw[<-aO];exact (gh.1 hb).1
  rcases yS (du (bl s) 49 48) with h1|h1
  ·obtain⟨u1,u2⟩:=CE hb h1;have U1:=zZ u1;have U2:=zZ u2;have HS:=zZ hs;clear u1 u2 hs;go_enter func105,ntmps105
   go_wp2_with fail;refine (fk _ _).mono ?_;rintro r w1 ⟨rfl,rfl⟩;rw[hb];go_wp2_with fail;refine (iE _ 49 48 _ HS.out).mono ?_;rintro r w1 ⟨rfl,rfl⟩;rw[h1];go_wp2_with fail;go_ret2
   exact⟨s,0,rfl,U2.out.symm,U1.out.symm,zE _⟩
  rcases yS (du (bl s) 48 49) with h2|h2
  ·obtain⟨u1,u2⟩:=rz hb h1 h2;have U1:=zZ u1;have U2:=zZ u2;have HS:=zZ hs;clear u1 u2 hs;go_enter func105,ntmps105
   go_wp2_with fail;refine (fk _ _).mono ?_;rintro r w1 ⟨rfl,rfl⟩;rw[hb];go_wp2_with fail;refine (iE _ 49 48 _ HS.out).mono ?_;rintro r w1 ⟨rfl,rfl⟩;rw[h1];go_wp2_with fail;refine (iE _ 48 49 _ HS.out).mono ?_;rintro r w1 ⟨rfl,rfl⟩;rw[h2];go_wp2_with fail;refine (GF s _ (by rw[HS.out];omega)).mono ?_;rintro r w1 ⟨t,rfl,ht,hx⟩;have HT:=zZ ht;have HX:=zZ hx;clear ht hx;go_wp2_with fail;go_ret2
   exact⟨t,0,rfl,U2.out.symm,by rw[U1.out,HT.out],HX.out⟩
  ·obtain⟨u1,u2⟩:=kQ hb h1 h2;have U1:=zZ u1;have U2:=zZ u2;have HS:=zZ hs;clear u1 u2 hs;go_enter func105,ntmps105
   go_wp2_with fail;refine (fk _ _).mono ?_;rintro r w1 ⟨rfl,rfl⟩;rw[hb];go_wp2_with fail;refine (iE _ 49 48 _ HS.out).mono ?_;rintro r w1 ⟨rfl,rfl⟩;rw[h1];go_wp2_with fail;refine (iE _ 48 49 _ HS.out).mono ?_;rintro r w1 ⟨rfl,rfl⟩;rw[h2];go_wp2_with fail;go_ret2
   exact⟨_,_,rfl,U2.out.symm,by rw[U1.out];rfl,zE _⟩
 ·obtain⟨u1,u2⟩:=Dx hb;have U1:=zZ u1;have U2:=zZ u2;clear u1 u2;go_enter func105,ntmps105
  go_wp2_with fail;refine (fk _ _).mono ?_;rintro r w1 ⟨rfl,rfl⟩;rw[hb];go_wp2_with fail;go_ret2
  exact⟨_,_,rfl,U2.out.symm,by rw[U1.out];rfl,zE _⟩
structure LE (base g:Nat) (tS tI:TypeId) (w:World) (M:Nat->Nat->F) (wd:Nat) (b cu:Nat->Nat) (hd:Array Value):Prop where
 head:w.heap[g]?=some (.cells hd tS (0,0))
 hdAt:∀r,r<6->hd[r]?=some (.slice (some ⟨b r,0,none⟩) wd (cu r))
 row:∀r,r<6->∃cur:Array Value,w.heap[b r]?=some (.cells cur tI (0,0))/\∀c,c<wd->cur[c]?=some (.int .i64 ((M r c).n:Int))
 inj:∀r s,r<6->s<6->b r=b s->r=s
 gne:∀r,r<6->b r≠g
 bge:∀r,r<6->base<=b r
 gge:base<=g
 cap:∀r,r<6->wd<=cu r/\cu r<=9223372036854775807
def dQ(base g:Nat)(tS tI:TypeId)(w:World)(M:Nat->Nat->F)(wd:Nat):Prop:=∃b cu hd,LE base g tS tI w M wd b cu hd
section
variable {base g wd:Nat} {tS tI:TypeId} {w w':World} {M N:Nat->Nat->F}
theorem dQ.keep(h:dQ base g tS tI w M wd)(e:∀k,base<=k->k<w.heap.size->w'.heap[k]?=w.heap[k]?):dQ base g tS tI w' M wd:=by obtain⟨b,cu,hd,h⟩:=h;refine⟨b,cu,hd,⟨(e g h.gge (al h.head)).trans h.head,h.hdAt,fun r hr=>?_,h.inj,h.gne,h.bge,h.gge,h.cap⟩⟩;obtain⟨cur,h1,h2⟩:=h.row r hr;exact⟨cur,(e _ (h.bge r hr) (al h1)).trans h1,h2⟩
theorem dQ.ext(h:dQ base g tS tI w M wd)(e:ab w w'):dQ base g tS tI w' M wd:=h.keep fun k _ hk=>e.block k hk
theorem dQ.xt{p:Nat}(h:dQ base g tS tI w M wd)(e:XT p w w')(hp:p<base):dQ base g tS tI w' M wd:=h.keep fun k hb hk=>e.block k hk (fun e=>by injection e;omega)
theorem dQ.congr(h:dQ base g tS tI w M wd)(e:∀r c,r<6->c<wd->M r c=N r c):dQ base g tS tI w N wd:=by obtain⟨b,cu,hd,h⟩:=h;refine⟨b,cu,hd,⟨h.head,h.hdAt,fun r hr=>?_,h.inj,h.gne,h.bge,h.gge,h.cap⟩⟩;obtain⟨cur,h1,h2⟩:=h.row r hr;exact⟨cur,h1,fun c hc=>by rw[<-e r c hr hc];exact h2 c hc⟩
theorem dQ.at_(h:dQ base g tS tI w M wd){r:Nat}(hr:r<6) :
  ∃b cu,w.cell? ⟨g,r,none⟩=some (.slice (some ⟨b,0,none⟩) wd cu)/\wd<=cu/\cu<=9223372036854775807/\base<=b/\b≠g /\
   (∀c,c<wd->w.cell? ⟨b,c,none⟩=some (.int .i64 ((M r c).n:Int)))/\(∀c,w.frozen? ⟨b,c,none⟩=false) /\
   (∀(w':World) (c:Nat) (y:F),ab w w'->dQ base g tS tI (w'.setCell ⟨b,c,none⟩ (.int .i64 (y.n:Int))) (F.upd M r c y) wd/\Below base w (w'.setCell ⟨b,c,none⟩ (.int .i64 (y.n:Int)))):=by
 obtain⟨b,cu,hd,h⟩:=h;obtain⟨cur,h1,h2⟩:=h.row r hr;refine⟨b r,cu r,ac h.head (h.hdAt r hr),(h.cap r hr).1,(h.cap r hr).2,h.bge r hr,h.gne r hr,fun c hc=>ac h1 (h2 c hc),fun c=>ae h1 c,fun w' c y e=>⟨⟨b,cu,hd,⟨?_,h.hdAt,fun s hs=>?_,h.inj,h.gne,h.bge,h.gge,h.cap⟩⟩,?_⟩⟩
 ·rw[yP _ _ _ _ (by simpa using (h.gne r hr).symm)];exact e.blk h.head
 ·by_cases es:s=r
  ·subst es;refine⟨_,bn (e.blk h1) _,fun c' hc'=>?_⟩;rw[vV];unfold F.upd;by_cases ec:c=c'
   ·subst ec;have:c<cur.size:=by have:=h2 c hc';exact (Array.getElem?_eq_some_iff.1 this).1
    rw[if_pos rfl,if_pos this,if_pos ⟨rfl,rfl⟩]
   ·rw[if_neg ec,if_neg (fun h=>ec h.2.symm)];exact h2 c' hc'
  ·obtain⟨cur',h3,h4⟩:=h.row s hs;have hb:b s≠b r:=fun e=>es (h.inj s r hs hr e);refine⟨cur',?_,fun c' hc'=>?_⟩
   ·rw[yP _ _ _ _ (by simpa using hb)];exact e.blk h3
   ·unfold F.upd;rw[if_neg (fun h=>es h.1)];exact h4 c' hc'
 ·have hlt:base<=w.heap.size:=yR (h.bge r hr) (Nat.le_of_lt (al h1));exact Below.setCell (Below.mono e hlt) (h.bge r hr) _
theorem dQ.frozAt(h:dQ base g tS tI w M wd){r b cu:Nat}(hr:r<6)(hc:w.cell? ⟨g,r,none⟩=some (.slice (some ⟨b,0,none⟩) n cu))(c:Nat):w.frozen? ⟨b,c,none⟩=false:=by obtain⟨b',cu',h0,_,_,_,_,_,h4,_⟩:=h.at_ hr;rw[hc]at h0;injection h0 with h0;injection h0 with h1;injection h1 with h1;injection h1 with h1;subst h1;exact h4 c
theorem dQ.swap(h:dQ base g tS tI w M wd){p:Nat}(hk:k<6)(hp:p<6) :
  ∃bk ck bp cp,w.cell? ⟨g,k,none⟩=some (.slice (some ⟨bk,0,none⟩) wd ck)/\w.cell? ⟨g,p,none⟩=some (.slice (some ⟨bp,0,none⟩) wd cp)/\w.frozen? ⟨g,k,none⟩=false/\w.frozen? ⟨g,p,none⟩=false /\
   ∀w':World,ab w w'->dQ base g tS tI ((w'.setCell ⟨g,k,none⟩ (.slice (some ⟨bp,0,none⟩) wd cp)).setCell ⟨g,p,none⟩ (.slice (some ⟨bk,0,none⟩) wd ck)) (F.swapM M k p) wd /\
    Below base w ((w'.setCell ⟨g,k,none⟩ (.slice (some ⟨bp,0,none⟩) wd cp)).setCell ⟨g,p,none⟩ (.slice (some ⟨bk,0,none⟩) wd ck)):=by
 obtain⟨b,cu,hd,h⟩:=h;have hsz:∀r,r<6->r<hd.size:=fun r hr=>(Array.getElem?_eq_some_iff.1 (h.hdAt r hr)).1;refine⟨b k,cu k,b p,cu p,ac h.head (h.hdAt k hk),ac h.head (h.hdAt p hp),ae h.head k,ae h.head p,fun w' e=>⟨?_,?_⟩⟩
 ·refine⟨fun r=>if r=k then b p else if r=p then b k else b r,fun r=>if r=k then cu p else if r=p then cu k else cu r,_,⟨bn (bn (e.blk h.head) _) _,fun r hr=>?_,fun r hr=>?_,fun r s hr hs he=>?_,fun r hr=>?_,fun r hr=>?_,h.gge,fun r hr=>?_⟩⟩
  ·rw[vV,vV,uN];by_cases e1:p=r
   ·subst e1;rw[if_pos rfl,if_pos (hsz p hp)];by_cases e2:p=k
    ·subst e2;simp
    ·simp[e2]
   ·rw[if_neg e1];by_cases e2:k=r
    ·subst e2;rw[if_pos rfl,if_pos (hsz k hk)];simp
    ·rw[if_neg e2,h.hdAt r hr];simp[Ne.symm e1,Ne.symm e2]
  ·have hkeep:∀s,s<6->((w'.setCell ⟨g,k,none⟩ (.slice (some ⟨b p,0,none⟩) wd (cu p))).setCell ⟨g,p,none⟩ (.slice (some ⟨b k,0,none⟩) wd (cu k))).heap[b s]?=w.heap[b s]?:=fun s hs=>by
    rw[yP _ _ _ _ (by simpa using h.gne s hs),yP _ _ _ _ (by simpa using h.gne s hs)];obtain⟨cur,h1,_⟩:=h.row s hs;exact e.block _ (al h1)
   unfold F.swapM;by_cases e1:r=k
   ·simp only[if_pos e1];rw[hkeep p hp];exact h.row p hp
   ·by_cases e2:r=p
    ·simp only[if_neg e1,if_pos e2];rw[hkeep k hk];exact h.row k hk
    ·simp only[if_neg e1,if_neg e2];rw[hkeep r hr];exact h.row r hr
  ·have hi:=h.inj;split at he
   ·split at he
    ·omega
    ·split at he
     ·have:=hi _ _ hp hk he;omega
     ·have:=hi _ _ hp hs he;omega
   ·split at he
    ·split at he
     ·have:=hi _ _ hk hp he;omega
     ·split at he
      ·omega
      ·have:=hi _ _ hk hs he;omega
    ·split at he
     ·have:=hi _ _ hr hp he;omega
     ·split at he
      ·have:=hi _ _ hr hk he;omega
      ·exact hi _ _ hr hs he
  ·split
   ·exact h.gne p hp
   ·split
    ·exact h.gne k hk
    ·exact h.gne r hr
  ·split
   ·exact h.bge p hp
   ·split
    ·exact h.bge k hk
    ·exact h.bge r hr
  ·split
   ·exact h.cap p hp
   ·split
    ·exact h.cap k hk
    ·exact h.cap r hr
 ·have hlt:base<=w.heap.size:=yR h.gge (Nat.le_of_lt (al h.head));exact Below.setCell (Below.setCell (Below.mono e hlt) h.gge _) h.gge _
end
theorem ab.below_trans{base:Nat}{w0 w w':World}(h:ab w0 w)(hb:w0.heap.size<=base)(k:Below base w w'):ab w0 w':=xD h (Below.mono k hb)
section
variable {P:Program} {ops:Array Oper} {Q:Exit->Act->World->Prop} {md:Region.Mode} {S:World->Prop} {k:Nat}
def fM(P:Program)(md:Region.Mode)(ops:Array Oper)(Q:Exit->Act->World->Prop)(S:World->Prop)(k:Nat):Nat->Array Bool->Act->World->Prop
 |0,listed,a,w=>Region.ready md ops listed=[]/\Q .normal a w
 |fuel+1,listed,a,w =>
  (Region.ready md ops listed=[]->Q .normal a w) /\
  ∀i∈Region.ready md ops listed,wpOp P ops Q i (fun a' w'=>((listed.setIfInBounds i true).getD k false=false->S w')/\fM P md ops Q S k fuel (listed.setIfInBounds i true) a' w') a w
theorem qU:∀(fuel:Nat) (listed:Array Bool) (a:Act) (w:World),fM P md ops Q S k fuel listed a w->wpAny P md ops Q fuel listed a w
 |0,_,_,_,h=>h
 |fuel+1,_,_,_,h=>⟨h.1,fun i hi=>wpOp_mono (fun a' w' h'=>qU fuel _ a' w' h'.2) (h.2 i hi)⟩
theorem bO{j:Nat}(h:j≠k):(listed.setIfInBounds j true).getD k false=listed.getD k false:=by simp[vV,h]
theorem jc{j:Nat}(h:(listed.setIfInBounds j true).getD k false=false):listed.getD k false=false:=by
 by_cases e:j=k
 ·subst e;rcases zU j listed.size with h'|h'
  ·simp[h']at h
  ·simp[wY h']
 ·rw[bO e]at h;exact h
theorem sl{i:Nat}{oi:Oper}(hi:ops[i]?=some oi)(hsel:∀(j:Nat) (o:Oper) cs b,ops[j]?=some o->o.op≠.select cs b)(hQ:∀c a w,Q (.panic c) (a.put oi.dst v) w->Q (.panic c) a w)(hik:i≠k)(hkw:∀ok,ops[k]?=some ok->∃e∈ok.after,Region.binds md e=true/\e.on=i) :
  ∀(fuel:Nat) (listed:Array Bool) (a:Act) (w:World),
   (∀j oj,ops[j]?=some oj->j≠i->listed.getD j true=false->(∀e∈oj.after,Region.binds md e=true->e.on≠i)->oi.apart ops oj=true) ->
   i∈Region.ready md ops listed->YieldsIf P ops S oi v a->listed.getD k false=false->(listed.getD k false=false->S w) ->
   fM P md ops Q S k fuel (listed.setIfInBounds i true) (a.put oi.dst v) w->fM P md ops Q S k (fuel+1) listed a w:=by
 intro fuel;induction fuel with
 |zero =>
  intro listed a w _ hr hy hu hS H;refine⟨fun h=>(by rw[h]at hr;cases hr),fun j hj=>?_⟩;by_cases hji:j=i
  ·subst hji;exact hy.wpOp hi (hS hu) ⟨fun h=>hS (jc h),H⟩
  ·have:=ready_mono hj hji;rw[H.1]at this;cases this
 |succ fuel ih =>
  intro listed a w hfree hr hy hu hS H;refine⟨fun h=>(by rw[h]at hr;cases hr),fun j hj=>?_⟩;by_cases hji:j=i
  ·subst hji;exact hy.wpOp hi (hS hu) ⟨fun h=>hS (jc h),H⟩
  ·have hh:=H.2 j (ready_mono hj hji);obtain⟨hjun,oj,hoj,hall⟩:=mem_ready.1 hj;have hnot:∀e∈oj.after,Region.binds md e=true->e.on≠i:=fun e he hb heq=>by
    have h1:=hall e he hb;have h0:=(mem_ready.1 hr).1;rw[heq]at h1;rcases zU i listed.size with h'|h'
    ·simp[h']at h0 h1;rw[h0]at h1;cases h1
    ·simp[wY h']at h1
   have hjk:j≠k:=fun e=>by subst e;obtain⟨x,hx,hb,ho⟩:=hkw oj hoj;exact hnot x hx hb ho
   have h2:=wpOp_putIf hoj (hfree j oj hoj hji hjun hnot) (fun cs b=>hsel i oi cs b hi) (fun cs b=>hsel j oj cs b hoj) hQ hy hh;have hfree':∀m om,ops[m]?=some om->m≠i->(listed.setIfInBounds j true).getD m true=false ->
     (∀e∈om.after,Region.binds md e=true->e.on≠i)->oi.apart ops om=true:=fun m om hm hmi hun hno=>by
    refine hfree m om hm hmi ?_ hno;by_cases hjm:j=m
    ·subst hjm;exact hjun
    ·rw[getD_set_ne true hjm]at hun;exact hun
   have hcomm:∀l:Array Bool,(l.setIfInBounds i true).setIfInBounds j true=(l.setIfInBounds j true).setIfInBounds i true:=fun l=>Array.setIfInBounds_comm _ _ (Ne.symm hji);refine wpOp_mono (fun a' w' h3=>⟨fun h=>h3.2.1 ?_,ih (listed.setIfInBounds j true) a' w' hfree' (ready_mono hr (Ne.symm hji)) h3.1 (by rw[bO hjk];exact hu) (fun h=>h3.2.1 ?_) ?_⟩) h2
   ·rw[<-hcomm];exact h3.2.2
   ·rw[hcomm];exact (bO hik).trans h
   ·rw[hcomm];exact (bO hik).trans h
theorem sn{i:Nat}{oi:Oper}(hi:ops[i]?=some oi)(hsel:∀(j:Nat) (o:Oper) cs b,ops[j]?=some o->o.op≠.select cs b)(hQ:∀c a w,Q (.panic c) (a.put oi.dst v) w->Q (.panic c) a w)(hik:i≠k) :
  ∀(fuel:Nat) (listed:Array Bool) (a:Act) (w:World),
   (∀j oj,ops[j]?=some oj->j≠i->listed.getD j true=false->(∀e∈oj.after,Region.binds md e=true->e.on≠i)->oi.apart ops oj=true) ->
   i∈Region.ready md ops listed->YieldsIf P ops (fun _=>True) oi v a->(listed.getD k false=false->S w) ->
   fM P md ops Q S k fuel (listed.setIfInBounds i true) (a.put oi.dst v) w->fM P md ops Q S k (fuel+1) listed a w:=by
 intro fuel;induction fuel with
 |zero =>
  intro listed a w _ hr hy hS H;refine⟨fun h=>(by rw[h]at hr;cases hr),fun j hj=>?_⟩;by_cases hji:j=i
  ·subst hji;exact hy.wpOp hi trivial ⟨fun h=>hS (jc h),H⟩
  ·have:=ready_mono hj hji;rw[H.1]at this;cases this
 |succ fuel ih =>
  intro listed a w hfree hr hy hS H;refine⟨fun h=>(by rw[h]at hr;cases hr),fun j hj=>?_⟩;by_cases hji:j=i
  ·subst hji;exact hy.wpOp hi trivial ⟨fun h=>hS (jc h),H⟩
  ·have hh:=H.2 j (ready_mono hj hji);obtain⟨hjun,oj,hoj,hall⟩:=mem_ready.1 hj;have hnot:∀e∈oj.after,Region.binds md e=true->e.on≠i:=fun e he hb heq=>by
    have h1:=hall e he hb;have h0:=(mem_ready.1 hr).1;rw[heq]at h1;rcases zU i listed.size with h'|h'
    ·simp[h']at h0 h1;rw[h0]at h1;cases h1
    ·simp[wY h']at h1
   have h2:=wpOp_putIf hoj (hfree j oj hoj hji hjun hnot) (fun cs b=>hsel i oi cs b hi) (fun cs b=>hsel j oj cs b hoj) hQ hy hh;have hfree':∀m om,ops[m]?=some om->m≠i->(listed.setIfInBounds j true).getD m true=false ->
     (∀e∈om.after,Region.binds md e=true->e.on≠i)->oi.apart ops om=true:=fun m om hm hmi hun hno=>by
    refine hfree m om hm hmi ?_ hno;by_cases hjm:j=m
    ·subst hjm;exact hjun
    ·rw[getD_set_ne true hjm]at hun;exact hun
   have hcomm:∀l:Array Bool,(l.setIfInBounds i true).setIfInBounds j true=(l.setIfInBounds j true).setIfInBounds i true:=fun l=>Array.setIfInBounds_comm _ _ (Ne.symm hji);refine wpOp_mono (fun a' w' h3=>⟨fun h=>h3.2.1 ?_,ih (listed.setIfInBounds j true) a' w' hfree' (ready_mono hr (Ne.symm hji)) h3.1 (fun h=>h3.2.1 ?_) ?_⟩) h2
   ·rw[<-hcomm];exact h3.2.2
   ·rw[hcomm];exact (bO hik).trans h
   ·rw[hcomm];exact (bO hik).trans h
theorem pz(i:Nat)(d:Option Tmp){oi:Oper}{a:Act}{w:World}(hi:ops[i]?=some oi)(hd:oi.dst=d)(hs:Region.noSelect ops=true)(hf:Region.free md ops listed i=true)(hr:(Region.ready md ops listed).contains i=true)(hik:i≠k)(hkw:rU md ops k i=true)(hu:listed.getD k false=false)(hQ:∀c a w,Q (.panic c) (a.put d v) w->Q (.panic c) a w)(hw:Region.wanted oi (yielded ops a.tmps)=true)(hy:∀w,S w->(execOp a.eval oi).run P w=.ok (.value v) w)(hS:S w)(h:fM P md ops Q S k fuel (listed.setIfInBounds i true) (a.put d v) w):fM P md ops Q S k (fuel+1) listed a w:=by
 subst hd;exact sl hi (uE hs) hQ hik (jP hkw) fuel listed a w (Region.free_spec hi hf) (by simpa using hr) (.inl ⟨hw,hy⟩) hu (fun _=>hS) h
theorem bD(i:Nat)(d:Option Tmp){oi:Oper}{a:Act}{w:World}(hi:ops[i]?=some oi)(hd:oi.dst=d)(hs:Region.noSelect ops=true)(hf:Region.free md ops listed i=true)(hr:(Region.ready md ops listed).contains i=true)(hik:i≠k)(hQ:∀c a w,Q (.panic c) (a.put d v) w->Q (.panic c) a w)(hw:Region.wanted oi (yielded ops a.tmps)=true)(hy:∀w,(execOp a.eval oi).run P w=.ok (.value v) w)(hS:listed.getD k false=false->S w)(h:fM P md ops Q S k fuel (listed.setIfInBounds i true) (a.put d v) w):fM P md ops Q S k (fuel+1) listed a w:=by
 subst hd;exact sn hi (uE hs) hQ hik fuel listed a w (Region.free_spec hi hf) (by simpa using hr) (.inl ⟨hw,fun w _=>hy w⟩) hS h
theorem qQ(i:Nat){o:Oper}{a:Act}{w:World}(hr:Region.ready md ops listed=[i])(ho:ops[i]?=some o)(h:∀K':Act->World->Prop,Shut (∀a w,((listed.setIfInBounds i true).getD k false=false->S w)->fM P md ops Q S k fuel (listed.setIfInBounds i true) a w->K' a w)->if Region.wanted o (yielded ops a.tmps)=true then Oper.wp P o a w K' Q else K' (a.put o.dst undef) w) :
  fM P md ops Q S k (fuel+1) listed a w:=by
 refine⟨fun h0=>(by rw[hr]at h0;cases h0),fun j hj=>?_⟩;rw[hr]at hj;obtain rfl:j=i:=by simpa using hj
 exact wpOp_step ho (fun K' hK=>h K' (fun a w hS hW=>hK a w ⟨hS,hW⟩))
theorem AD{listed:Array Bool}{a:Act}{w:World}(hr:Region.ready md ops listed=[])(h:Q .normal a w) :
  ∀fuel,fM P md ops Q S k fuel listed a w
 |0=>⟨hr,h⟩
 |_+1=>⟨fun _=>h,by rw[hr];simp⟩
theorem Bn(k:Nat)(S:World->Prop){id:Nat}{a:Act}{w:World}(hm:P.follows .mixedOrders=true)(h:fM P .any ops Q S k ops.size (Array.replicate ops.size false) a w.drew):(Code.region id ops true).wp P Q a w :=
 wp_region_any hm (qU _ _ _ _ h)
theorem fh{b:Bool}{X:Prop}(h:b=true):b=false->X:=fun h'=>by rw[h]at h';cases h'
end
end Go.Proofs.YtkaajgoeahahpaaGreatDoor

