import Derived.Test.YtjgfgdcaocbfhaaGreatH7
import Derived.Shelf.Strings.BuilderK
import Derived.Shelf.Strings.Count
import Derived.Shelf.Strings.Repeat
import Derived.Test.YtjgfgdcaocbfhaaGreatProg
import Derived.Lib.BufferRead
import Derived.Deep.OwnRows
import Derived.Laws.EntriesVeiled
set_option linter.all false
set_option maxRecDepth 100000
set_option maxHeartbeats 0
namespace Go.Proofs.YtjgfgdcaocbfhaaGreat
open Go.RowKit _root_.Go.Proofs.Tryz
variable {base k n p:Nat} {l s:List UInt8} {v:Value} {w:World}
theorem Tryz.infoU8:(prog.info? 5).map (fun i=>(i.zero,i.size,i.bytes))=some (some (.int .u8 0),1,1):=by kernel_rfl
theorem C8{α:Type}{l:List α}{x:α}(h:l[k]?=some x):(l.drop k)=x::l.drop (k+1):=by obtain⟨hk,rfl⟩:=zY.1 h;exact List.drop_eq_getElem_cons hk
theorem DE{x:UInt8}(h:l[k]?=some x):(l.drop (k+1)).reverse++[x]=(l.drop k).reverse:=by rw[C8 h,List.reverse_cons]
theorem C3(w:World)(h:w.ownsRow base 5 1 v n (Lib.byteCells l))(hn:n≤1000000) :
  ∃t,(convert 180 9 v).run prog w=.ok (.string t) w∧bl t=l:=by
 have hn1:n=l.length:=by have:=h.1;rw[Lib.byteCells_length]at this;omega
 rcases h.2 with ⟨rfl,hnil⟩|⟨g,cap,cur,rfl,hg,hh,hnc,hcm,hcs,htk⟩
 ·obtain rfl:l=[]:=yO (by omega);exact⟨⟨#[]⟩,Lib.run_convert_nil_bytes w _ _ 5 0 underlying180 underlying5 underlying9,rfl⟩
 ·subst hn1;refine⟨⟨l.toArray⟩,?_,Hp l⟩;exact run_convert_bytes_back w _ _ 5 ⟨g,0,none⟩ cap l underlying180 underlying5 underlying9 (fun j hj=>Lib.bytes_of_row hh (by simpa using htk) j hj)
theorem mz(s:ByteArray)(w:World)(hs:s.size≤1000000) :
  Calls prog 93 #[.string s] w fun e w'=>∃t,e=.returned (.string t)∧bl t=(bl s).reverse∧ab w w':=by
 have HL:=zZ (aU s);obtain⟨i0,hi0,hz0,hz1,hz2⟩:=info_parts Tryz.infoU8;go_enter func93,ntmps93
 go_wp2_with fail;go_loopw [3,4] (fun v i wr=>∃k:Nat,k≤s.size∧i=.int .i64 ((k:Int)-1)∧Hid (wr.ownsRow w.heap.size 5 1 v (s.size-k) (Lib.byteCells ((bl s).drop k).reverse))∧Hid (ab w wr)) (fun _ i _=>((intOf i)+1).toNat)
 case atStart=>exact⟨s.size,zX _,rfl,by show World.ownsRow _ _ _ _ _ _ _;rw[List.drop_of_length_le (by rw[HL.out];exact zX _),Nat.sub_self];exact yW _ _ _ _,zE _⟩
 case round =>
  obtain⟨k,hk,rfl,HO,HE⟩:=hrel;have hsz:=HE.out.size;by_cases h0:0<k
  ·obtain⟨j,rfl⟩:∃j,k=j+1:=⟨k-1,by omega⟩
   have hj:j<s.size:=by omega
   have HX:=zZ (qK hj);have e1:(((j+1:Nat):Int)-1)=(j:Int):=by omega
   rw[e1];clear e1;go_wp2_with (at_builtin;refine al _ rfl (.tmp 12) (.tmp 16) 180 rfl w.heap.size 5 i0 _ 1 underlying180 hi0 hz0 hz1 hz2 rfl _ _ _ rfl (HO.out.alloc _) _ _ rfl (ak (heap_alloc_new _ _) rfl) rfl (by omega) (by omega) (by simp;omega) ?_;intro v' w' hown hg);go_roundw
   case rel =>
    refine⟨j,by omega,rfl,?_,?_⟩
    ·show World.ownsRow _ _ _ _ _ _ _
     rw[←DE HX.out,Lib.byteCells_append,show s.size-j=s.size-(j+1)+1 by omega];exact hown
    ·exact ab.grown (HE.out.alloc _) hg (fun q hq=>ar HO.out q hq)
   case measure=>simp[intOf]
  ·obtain rfl:k=0:=by omega
   obtain⟨t,ht,hb⟩:=C3 wr HO.out (by omega);have HT:=zZ hb;clear hb;go_wp2_with fail;go_ret
   exact⟨_,rfl,by rw[HT.out,List.drop_zero],HE.out⟩
theorem yh{x c:UInt8}(h:l[k]?=some x):(l.take (k+1)).count c=(l.take k).count c+(if x=c then 1 else 0):=by rw[ag h,List.count_append,List.count_singleton];by_cases hx:x=c<;>simp[hx]
theorem CT(s:ByteArray)(c:UInt8)(w:World)(hs:s.size≤1000000) :
  Calls prog 149 #[.string s,.int .u8 (c.toNat:Int)] w fun e w'=>e=.returned (.int .i64 ((bl s).count c:Int))∧w=w':=by
 have HL:=zZ (aU s);go_enter func149,ntmps149
 go_wp2_with fail;go_loop [5,6] (fun n i=>∃k m:Nat,k≤s.size∧i=.int .i64 k∧n=.int .i64 m∧m≤k∧Hid (((bl s).take k).count c=m)) (fun _ i=>s.size-(intOf i).toNat)
 case atStart=>exact⟨0,0,yK _,rfl,rfl,zX _,rfl⟩
 case round =>
  obtain⟨k,m,hk,rfl,rfl,hm,HK⟩:=hrel;by_cases hlt:k<s.size
  ·have HS:=zZ (yh (c:=c) (qK hlt));by_cases a1:s[k]=c
   ·rw[if_pos a1]at HS;rw[HK.out]at HS;have e1:((s[k].toNat:Int)==(c.toNat:Int))=true:=by rw[a1];simp
    have e2:s[k].toNat=c.toNat:=by rw[a1]
    clear a1;go_wp2_with fail;go_round
    case rel=>exact⟨k+1,m+1,by omega,by go_num,by go_num,by omega,HS.out⟩
    case measure=>simp[intOf];omega
   ·rw[if_neg a1]at HS;rw[HK.out]at HS;have e2:¬s[k].toNat=c.toNat:=fun e=>a1 (UInt8.toNat_inj.1 e);have e1:((s[k].toNat:Int)==(c.toNat:Int))=false:=beq_eq_false_iff_ne.2 (by omega);clear a1;go_wp2_with fail;go_round
    case rel=>exact⟨k+1,m,by omega,by go_num,rfl,by omega,HS.out⟩
    case measure=>simp[intOf];omega
  ·obtain rfl:k=s.size:=by omega
   rw[aD HL.out]at HK;go_wp2_with fail;go_ret
   exact⟨ah (by rw[HK.out]),rfl⟩
theorem ks(s:ByteArray)(c:UInt8)(w:World)(n:Nat)(h:(bl s).count c=n)(hs:s.size≤1000000) :
  Calls prog 149 #[.string s,.int .u8 (c.toNat:Int)] w fun e w'=>e=.returned (.int .i64 (n:Int))∧w=w':=by
 subst h;exact CT s c w hs
theorem qn(s:ByteArray)(w:World)(n:Nat)(h:(bl s).count 48=n)(hs:s.size≤1000000) :
  Calls prog 149 #[.string s,.int .u8 48] w fun e w'=>e=.returned (.int .i64 (n:Int))∧w=w':=ks s 48 w n h hs
theorem px(s:ByteArray)(w:World)(n:Nat)(h:(bl s).count 49=n)(hs:s.size≤1000000) :
  Calls prog 149 #[.string s,.int .u8 49] w fun e w'=>e=.returned (.int .i64 (n:Int))∧w=w':=ks s 49 w n h hs
theorem Ix(s:ByteArray)(w:World)(n:Nat)(h:(bl s).count 63=n)(hs:s.size≤1000000) :
  Calls prog 149 #[.string s,.int .u8 63] w fun e w'=>e=.returned (.int .i64 (n:Int))∧w=w':=ks s 63 w n h hs
theorem Ag{b e:UInt8}{m:Nat}(h1:(s.take 7).count b=n)(h2:(s.drop 67).count e=m):dM s b e=(decide (4≤n)&&decide (4≤m)):=by unfold dM;rw[h1,h2]
def G9(s:List UInt8)(w:World)(e:Ending)(w':World):Prop:=∃t k,e=.returned (.tuple #[.string t,.int .i64 k])∧k=jh s∧bl t=j9 s∧ab w w'
theorem Ft(h:bA s=false):j9 s=[]∧jh s=7:=by unfold j9 jh;rw[h];exact⟨rfl,rfl⟩
theorem GH(h:bA s=true)(h1:dM s 49 48=true):j9 s=s∧jh s=0:=by unfold j9 jh;rw[h,h1];exact⟨rfl,rfl⟩
theorem un(h:bA s=true)(h1:dM s 49 48=false)(h2:dM s 48 49=true):j9 s=s.reverse∧jh s=0:=by unfold j9 jh;rw[h,h1,h2];exact⟨rfl,rfl⟩
theorem kT(h:bA s=true)(h1:dM s 49 48=false)(h2:dM s 48 49=false):j9 s=[]∧jh s=26:=by unfold j9 jh;rw[h,h1,h2];exact⟨rfl,rfl⟩
structure IH (s:ByteArray) (n1 m1 n2 m2:Nat):Prop where
 n1:(bl (s.extract 0 7)).count 49=n1
 m1:(bl (s.extract 67 s.size)).count 48=m1
 n2:(bl (s.extract 0 7)).count 48=n2
 m2:(bl (s.extract 67 s.size)).count 49=m2
 e7:(s.extract 0 7).size≤1000000
 e67:(s.extract 67 s.size).size≤1000000
theorem rH(s:ByteArray)(w:World):Calls prog 121 #[.string s] w (G9 (bl s) w):=by
 rcases yF (bA (bl s)) with hb|hb
 ·have hs:s.size=74:=by rw[←aU];exact (jJ.1 hb).1
  have h74:74≤s.size:=by omega
  have h75:s.size≤74:=by omega
  obtain⟨n1,hn1⟩:∃n,((bl s).take 7).count 49=n:=⟨_,rfl⟩
  obtain⟨m1,hm1⟩:∃n,((bl s).drop 67).count 48=n:=⟨_,rfl⟩
  obtain⟨n2,hn2⟩:∃n,((bl s).take 7).count 48=n:=⟨_,rfl⟩
  obtain⟨m2,hm2⟩:∃n,((bl s).drop 67).count 49=n:=⟨_,rfl⟩
  have HM1:=zZ (Ag hn1 hm1);have HM2:=zZ (Ag hn2 hm2);have HC:IH s n1 m1 n2 m2:=⟨by rw[uv];exact hn1,by rw[lu];exact hm1,by rw[uv];exact hn2,by rw[lu];exact hm2,by rw[←aU,uv,zF,aU];omega,by rw[←aU,lu,xS,aU];omega⟩
  clear hs hn1 hm1 hn2 hm2;by_cases c1:4≤n1
  ·by_cases c2:4≤m1
   ·have g1:dM (bl s) 49 48=true:=by rw[HM1.out];simp;omega
    obtain⟨u1,u2⟩:=GH hb g1;have U1:=zZ u1;have U2:=zZ u2;clear u1 u2 g1 HM1 HM2;go_enter func121,ntmps121
    go_wp2_with fail;refine (dh _ _).mono ?_;rintro r w1 ⟨rfl,rfl⟩;rw[hb];go_wp2_with fail;refine (px _ _ n1 HC.n1 HC.e7).mono ?_;rintro r w1 ⟨rfl,rfl⟩;go_wp2_with fail;refine (qn _ _ m1 HC.m1 HC.e67).mono ?_;rintro r w1 ⟨rfl,rfl⟩;go_wp2_with fail;go_ret2
    exact⟨s,0,rfl,U2.out.symm,U1.out.symm,zE _⟩
   ·by_cases c3:4≤n2
    ·by_cases c4:4≤m2
     ·have g1:dM (bl s) 49 48=false:=by rw[HM1.out];simp;omega
      have g2:dM (bl s) 48 49=true:=by rw[HM2.out];simp;omega
      obtain⟨u1,u2⟩:=un hb g1 g2;have U1:=zZ u1;have U2:=zZ u2;clear u1 u2 g1 HM1 HM2 g2;go_enter func121,ntmps121
      go_wp2_with fail;refine (dh _ _).mono ?_;rintro r w1 ⟨rfl,rfl⟩;rw[hb];go_wp2_with fail;refine (px _ _ n1 HC.n1 HC.e7).mono ?_;rintro r w1 ⟨rfl,rfl⟩;go_wp2_with fail;refine (qn _ _ m1 HC.m1 HC.e67).mono ?_;rintro r w1 ⟨rfl,rfl⟩;go_wp2_with fail;refine (qn _ _ n2 HC.n2 HC.e7).mono ?_;rintro r w1 ⟨rfl,rfl⟩;go_wp2_with fail;refine (px _ _ m2 HC.m2 HC.e67).mono ?_;rintro r w1 ⟨rfl,rfl⟩;go_wp2_with fail;refine (mz s _ (by omega)).mono ?_;rintro r w1 ⟨t,rfl,ht,hx⟩;have HT:=zZ ht;have HX:=zZ hx;clear ht hx;go_wp2_with fail;go_ret2
      exact⟨t,0,rfl,U2.out.symm,by rw[U1.out,HT.out],HX.out⟩
     ·have g1:dM (bl s) 49 48=false:=by rw[HM1.out];simp;omega
      have g2:dM (bl s) 48 49=false:=by rw[HM2.out];simp;omega
      obtain⟨u1,u2⟩:=kT hb g1 g2;have U1:=zZ u1;have U2:=zZ u2;clear u1 u2 g1 HM1 HM2 g2;go_enter func121,ntmps121
      go_wp2_with fail;refine (dh _ _).mono ?_;rintro r w1 ⟨rfl,rfl⟩;rw[hb];go_wp2_with fail;refine (px _ _ n1 HC.n1 HC.e7).mono ?_;rintro r w1 ⟨rfl,rfl⟩;go_wp2_with fail;refine (qn _ _ m1 HC.m1 HC.e67).mono ?_;rintro r w1 ⟨rfl,rfl⟩;go_wp2_with fail;refine (qn _ _ n2 HC.n2 HC.e7).mono ?_;rintro r w1 ⟨rfl,rfl⟩;go_wp2_with fail;refine (px _ _ m2 HC.m2 HC.e67).mono ?_;rintro r w1 ⟨rfl,rfl⟩;go_wp2_with fail;go_ret2
      exact⟨_,_,rfl,U2.out.symm,by rw[U1.out];rfl,zE _⟩
    ·have g1:dM (bl s) 49 48=false:=by rw[HM1.out];simp;omega
     have g2:dM (bl s) 48 49=false:=by rw[HM2.out];simp;omega
     obtain⟨u1,u2⟩:=kT hb g1 g2;have U1:=zZ u1;have U2:=zZ u2;clear u1 u2 g1 HM1 HM2 g2;go_enter func121,ntmps121
     go_wp2_with fail;refine (dh _ _).mono ?_;rintro r w1 ⟨rfl,rfl⟩;rw[hb];go_wp2_with fail;refine (px _ _ n1 HC.n1 HC.e7).mono ?_;rintro r w1 ⟨rfl,rfl⟩;go_wp2_with fail;refine (qn _ _ m1 HC.m1 HC.e67).mono ?_;rintro r w1 ⟨rfl,rfl⟩;go_wp2_with fail;refine (qn _ _ n2 HC.n2 HC.e7).mono ?_;rintro r w1 ⟨rfl,rfl⟩;go_wp2_with fail;go_ret2
     exact⟨_,_,rfl,U2.out.symm,by rw[U1.out];rfl,zE _⟩
  ·by_cases c3:4≤n2
   ·by_cases c4:4≤m2
    ·have g1:dM (bl s) 49 48=false:=by rw[HM1.out];simp;omega
     have g2:dM (bl s) 48 49=true:=by rw[HM2.out];simp;omega
     obtain⟨u1,u2⟩:=un hb g1 g2;have U1:=zZ u1;have U2:=zZ u2;clear u1 u2 g1 HM1 HM2 g2;go_enter func121,ntmps121
     go_wp2_with fail;refine (dh _ _).mono ?_;rintro r w1 ⟨rfl,rfl⟩;rw[hb];go_wp2_with fail;refine (px _ _ n1 HC.n1 HC.e7).mono ?_;rintro r w1 ⟨rfl,rfl⟩;go_wp2_with fail;refine (qn _ _ n2 HC.n2 HC.e7).mono ?_;rintro r w1 ⟨rfl,rfl⟩;go_wp2_with fail;refine (px _ _ m2 HC.m2 HC.e67).mono ?_;rintro r w1 ⟨rfl,rfl⟩;go_wp2_with fail;refine (mz s _ (by omega)).mono ?_;rintro r w1 ⟨t,rfl,ht,hx⟩;have HT:=zZ ht;have HX:=zZ hx;clear ht hx;go_wp2_with fail;go_ret2
     exact⟨t,0,rfl,U2.out.symm,by rw[U1.out,HT.out],HX.out⟩
    ·have g1:dM (bl s) 49 48=false:=by rw[HM1.out];simp;omega
     have g2:dM (bl s) 48 49=false:=by rw[HM2.out];simp;omega
     obtain⟨u1,u2⟩:=kT hb g1 g2;have U1:=zZ u1;have U2:=zZ u2;clear u1 u2 g1 HM1 HM2 g2;go_enter func121,ntmps121
     go_wp2_with fail;refine (dh _ _).mono ?_;rintro r w1 ⟨rfl,rfl⟩;rw[hb];go_wp2_with fail;refine (px _ _ n1 HC.n1 HC.e7).mono ?_;rintro r w1 ⟨rfl,rfl⟩;go_wp2_with fail;refine (qn _ _ n2 HC.n2 HC.e7).mono ?_;rintro r w1 ⟨rfl,rfl⟩;go_wp2_with fail;refine (px _ _ m2 HC.m2 HC.e67).mono ?_;rintro r w1 ⟨rfl,rfl⟩;go_wp2_with fail;go_ret2
     exact⟨_,_,rfl,U2.out.symm,by rw[U1.out];rfl,zE _⟩
   ·have g1:dM (bl s) 49 48=false:=by rw[HM1.out];simp;omega
    have g2:dM (bl s) 48 49=false:=by rw[HM2.out];simp;omega
    obtain⟨u1,u2⟩:=kT hb g1 g2;have U1:=zZ u1;have U2:=zZ u2;clear u1 u2 g1 HM1 HM2 g2;go_enter func121,ntmps121
    go_wp2_with fail;refine (dh _ _).mono ?_;rintro r w1 ⟨rfl,rfl⟩;rw[hb];go_wp2_with fail;refine (px _ _ n1 HC.n1 HC.e7).mono ?_;rintro r w1 ⟨rfl,rfl⟩;go_wp2_with fail;refine (qn _ _ n2 HC.n2 HC.e7).mono ?_;rintro r w1 ⟨rfl,rfl⟩;go_wp2_with fail;go_ret2
    exact⟨_,_,rfl,U2.out.symm,by rw[U1.out];rfl,zE _⟩
 ·obtain⟨u1,u2⟩:=Ft hb;have U1:=zZ u1;have U2:=zZ u2;clear u1 u2;go_enter func121,ntmps121
  go_wp2_with fail;refine (dh _ _).mono ?_;rintro r w1 ⟨rfl,rfl⟩;rw[hb];go_wp2_with fail;go_ret2
  exact⟨_,_,rfl,U2.out.symm,by rw[U1.out];rfl,zE _⟩
structure Iw (base g:Nat) (tS tI:TypeId) (w:World) (M:Nat→Nat→F) (wd:Nat) (b cu:Nat→Nat) (hd:Array Value):Prop where
 head:w.heap[g]?=some (.cells hd tS (0,0))
 hdAt:∀r,r<6→hd[r]?=some (.slice (some ⟨b r,0,none⟩) wd (cu r))
 row:∀r,r<6→∃cur:Array Value,w.heap[b r]?=some (.cells cur tI (0,0))∧∀c,c<wd→cur[c]?=some (.int .i64 ((M r c).n:Int))
 inj:∀r s,r<6→s<6→b r=b s→r=s
 gne:∀r,r<6→b r≠g
 bge:∀r,r<6→base≤b r
 gge:base≤g
 cap:∀r,r<6→wd≤cu r∧cu r≤9223372036854775807
def eT(base g:Nat)(tS tI:TypeId)(w:World)(M:Nat→Nat→F)(wd:Nat):Prop:=∃b cu hd,Iw base g tS tI w M wd b cu hd
section
variable {base g wd:Nat} {tS tI:TypeId} {w w':World} {M N:Nat→Nat→F}
theorem eT.keep(h:eT base g tS tI w M wd)(e:∀k,base≤k→k<w.heap.size→w'.heap[k]?=w.heap[k]?):eT base g tS tI w' M wd:=by obtain⟨b,cu,hd,h⟩:=h;refine⟨b,cu,hd,⟨(e g h.gge (bK h.head)).trans h.head,h.hdAt,fun r hr=>?_,h.inj,h.gne,h.bge,h.gge,h.cap⟩⟩;obtain⟨cur,h1,h2⟩:=h.row r hr;exact⟨cur,(e _ (h.bge r hr) (bK h1)).trans h1,h2⟩
theorem eT.ext(h:eT base g tS tI w M wd)(e:ab w w'):eT base g tS tI w' M wd:=h.keep fun k _ hk=>e.block k hk
theorem eT.xt(h:eT base g tS tI w M wd)(e:XT p w w')(hp:p<base):eT base g tS tI w' M wd:=h.keep fun k hb hk=>e.block k hk (fun e=>by injection e;omega)
theorem eT.congr(h:eT base g tS tI w M wd)(e:∀r c,r<6→c<wd→M r c=N r c):eT base g tS tI w N wd:=by obtain⟨b,cu,hd,h⟩:=h;refine⟨b,cu,hd,⟨h.head,h.hdAt,fun r hr=>?_,h.inj,h.gne,h.bge,h.gge,h.cap⟩⟩;obtain⟨cur,h1,h2⟩:=h.row r hr;exact⟨cur,h1,fun c hc=>by rw[←e r c hr hc];exact h2 c hc⟩
theorem eT.at_(h:eT base g tS tI w M wd){r:Nat}(hr:r<6) :
  ∃b cu,w.cell? ⟨g,r,none⟩=some (.slice (some ⟨b,0,none⟩) wd cu)∧wd≤cu∧cu≤9223372036854775807∧base≤b∧b≠g ∧
   (∀c,c<wd→w.cell? ⟨b,c,none⟩=some (.int .i64 ((M r c).n:Int)))∧(∀c,w.frozen? ⟨b,c,none⟩=false) ∧
   (∀(w':World) (c:Nat) (y:F),ab w w'→eT base g tS tI (w'.setCell ⟨b,c,none⟩ (.int .i64 (y.n:Int))) (F.upd M r c y) wd∧Below base w (w'.setCell ⟨b,c,none⟩ (.int .i64 (y.n:Int)))):=by
 obtain⟨b,cu,hd,h⟩:=h;obtain⟨cur,h1,h2⟩:=h.row r hr;refine⟨b r,cu r,ak h.head (h.hdAt r hr),(h.cap r hr).1,(h.cap r hr).2,h.bge r hr,h.gne r hr,fun c hc=>ak h1 (h2 c hc),fun c=>ax h1 c,fun w' c y e=>⟨⟨b,cu,hd,⟨?_,h.hdAt,fun s hs=>?_,h.inj,h.gne,h.bge,h.gge,h.cap⟩⟩,?_⟩⟩
 ·rw[xE _ _ _ _ (by simpa using (h.gne r hr).symm)];exact e.blk h.head
 ·by_cases es:s=r
  ·subst es;refine⟨_,dS (e.blk h1) _,fun c' hc'=>?_⟩;rw[wZ];unfold F.upd;by_cases ec:c=c'
   ·subst ec;have:c<cur.size:=by have:=h2 c hc';exact (Array.getElem?_eq_some_iff.1 this).1
    rw[if_pos rfl,if_pos this,if_pos ⟨rfl,rfl⟩]
   ·rw[if_neg ec,if_neg (fun h=>ec h.2.symm)];exact h2 c' hc'
  ·obtain⟨cur',h3,h4⟩:=h.row s hs;have hb:b s≠b r:=fun e=>es (h.inj s r hs hr e);refine⟨cur',?_,fun c' hc'=>?_⟩
   ·rw[xE _ _ _ _ (by simpa using hb)];exact e.blk h3
   ·unfold F.upd;rw[if_neg (fun h=>es h.1)];exact h4 c' hc'
 ·have hlt:base≤w.heap.size:=yL (h.bge r hr) (Nat.le_of_lt (bK h1));exact Below.setCell (Below.mono e hlt) (h.bge r hr) _
theorem eT.frozAt(h:eT base g tS tI w M wd){r b cu:Nat}(hr:r<6)(hc:w.cell? ⟨g,r,none⟩=some (.slice (some ⟨b,0,none⟩) n cu))(c:Nat):w.frozen? ⟨b,c,none⟩=false:=by obtain⟨b',cu',h0,_,_,_,_,_,h4,_⟩:=h.at_ hr;rw[hc]at h0;injection h0 with h0;injection h0 with h1;injection h1 with h1;injection h1 with h1;subst h1;exact h4 c
theorem eT.swap(h:eT base g tS tI w M wd)(hk:k<6)(hp:p<6) :
  ∃bk ck bp cp,w.cell? ⟨g,k,none⟩=some (.slice (some ⟨bk,0,none⟩) wd ck)∧w.cell? ⟨g,p,none⟩=some (.slice (some ⟨bp,0,none⟩) wd cp)∧w.frozen? ⟨g,k,none⟩=false∧w.frozen? ⟨g,p,none⟩=false ∧
   ∀w':World,ab w w'→eT base g tS tI ((w'.setCell ⟨g,k,none⟩ (.slice (some ⟨bp,0,none⟩) wd cp)).setCell ⟨g,p,none⟩ (.slice (some ⟨bk,0,none⟩) wd ck)) (F.swapM M k p) wd ∧
    Below base w ((w'.setCell ⟨g,k,none⟩ (.slice (some ⟨bp,0,none⟩) wd cp)).setCell ⟨g,p,none⟩ (.slice (some ⟨bk,0,none⟩) wd ck)):=by
 obtain⟨b,cu,hd,h⟩:=h;have hsz:∀r,r<6→r<hd.size:=fun r hr=>(Array.getElem?_eq_some_iff.1 (h.hdAt r hr)).1;refine⟨b k,cu k,b p,cu p,ak h.head (h.hdAt k hk),ak h.head (h.hdAt p hp),ax h.head k,ax h.head p,fun w' e=>⟨?_,?_⟩⟩
 ·refine⟨fun r=>if r=k then b p else if r=p then b k else b r,fun r=>if r=k then cu p else if r=p then cu k else cu r,_,⟨dS (dS (e.blk h.head) _) _,fun r hr=>?_,fun r hr=>?_,fun r s hr hs he=>?_,fun r hr=>?_,fun r hr=>?_,h.gge,fun r hr=>?_⟩⟩
  ·rw[wZ,wZ,wH];by_cases e1:p=r
   ·subst e1;rw[if_pos rfl,if_pos (hsz p hp)];by_cases e2:p=k
    ·subst e2;simp
    ·simp[e2]
   ·rw[if_neg e1];by_cases e2:k=r
    ·subst e2;rw[if_pos rfl,if_pos (hsz k hk)];simp
    ·rw[if_neg e2,h.hdAt r hr];simp[Ne.symm e1,Ne.symm e2]
  ·have hkeep:∀s,s<6→((w'.setCell ⟨g,k,none⟩ (.slice (some ⟨b p,0,none⟩) wd (cu p))).setCell ⟨g,p,none⟩ (.slice (some ⟨b k,0,none⟩) wd (cu k))).heap[b s]?=w.heap[b s]?:=fun s hs=>by
    rw[xE _ _ _ _ (by simpa using h.gne s hs),xE _ _ _ _ (by simpa using h.gne s hs)];obtain⟨cur,h1,_⟩:=h.row s hs;exact e.block _ (bK h1)
   unfold F.swapM;by_cases e1:r=k
   ·simp only[if_pos e1];rw[hkeep p hp];exact h.row p hp
   ·by_cases e2:r=p
    ·simp only[if_neg e1,if_pos e2];rw[hkeep k hk];exact h.row k hk
    ·simp only[if_neg e1,if_neg e2];rw[hkeep r hr];exact h.row r hr
  ·have hi:=h.inj;split at he
   ·split at he
    ·omega
    ·split at he
     ·have:=hi _ _ hp hk he;omega
     ·have:=hi _ _ hp hs he;omega
   ·split at he
    ·split at he
     ·have:=hi _ _ hk hp he;omega
     ·split at he
      ·omega
      ·have:=hi _ _ hk hs he;omega
    ·split at he
     ·have:=hi _ _ hr hp he;omega
     ·split at he
      ·have:=hi _ _ hr hk he;omega
      ·exact hi _ _ hr hs he
  ·split
   ·exact h.gne p hp
   ·split
    ·exact h.gne k hk
    ·exact h.gne r hr
  ·split
   ·exact h.bge p hp
   ·split
    ·exact h.bge k hk
    ·exact h.bge r hr
  ·split
   ·exact h.cap p hp
   ·split
    ·exact h.cap k hk
    ·exact h.cap r hr
 ·have hlt:base≤w.heap.size:=yL h.gge (Nat.le_of_lt (bK h.head));exact Below.setCell (Below.setCell (Below.mono e hlt) h.gge _) h.gge _
end
theorem ab.below_trans{w0 w':World}(h:ab w0 w)(hb:w0.heap.size≤base)(k:Below base w w'):ab w0 w':=Below.trans h (Below.mono k hb)
def ng(ps:List Nat):List Int:=ps.map fun (p:Nat)=>(p:Int)
theorem jT(ps:List Nat):(ng ps).length=ps.length:=by simp[ng]
theorem vV{ps:List Nat}{x:Int}(h:(ng ps)[k]?=some x):∃p:Nat,ps[k]?=some p∧x=(p:Int):=by unfold ng at h;rw[zL,yI]at h;obtain⟨c,h1,h2⟩:=h;exact⟨c,h1,h2.symm⟩
theorem mZ.matW{g eS eI cap wd:Nat}{M:Nat→Nat→F}(h:mZ base eS eI w (.slice (some ⟨g,0,none⟩) 6 cap) (F.matI M wd))(hne:eS≠eI)(hw:0<wd):eT base g eS eI w M wd:=by
 obtain⟨us,a,b,c,d⟩:=h;rw[F.matI_len]at a b;rcases b.2 with ⟨e,_⟩|⟨g',cap',cur,e,hg,hh,hnc,hcm,hcs,htk⟩
 ·cases e
 injection e with e1 e2 e3;injection e1 with e1;injection e1 with e1;subst e1;rw[wY]at htk;have hrow:∀r,r<6→∃br cr,us[r]?=some (.slice (some ⟨br,0,none⟩) wd cr)∧base≤br∧wd≤cr∧cr≤9223372036854775807∧∃cu:Array Value,w.heap[br]?=some (.cells cu eI (0,0))∧∀i,i<wd→cu[i]?=some (.int .i64 ((M r i).n:Int)):=by
  intro r hr;have hu:us[r]?=some us[r]:=zW (by omega);have ho:=c r _ _ hu (F.matI_at hr);rw[F.rowI_len]at ho;rcases ho.2 with ⟨e,h0⟩|⟨br,cr,cu,e,hb,hhb,h1,h2,h3,h4⟩
  ·omega
  ·refine⟨br,cr,by rw[hu,e],hb,h1,h2,cu,hhb,fun i hi=>?_⟩;rw[wY]at h4;have:(cu.toList.take wd)[i]?=some (.int .i64 ((M r i).n:Int)):=by
    rw[h4,zL,F.rowI_at hi];rfl
   rw[yB,if_pos hi]at this;simpa using this
 let br:Nat→Nat:=fun r=>if h:r<6 then (hrow r h).choose else 0
 have hbr:∀r (h:r<6),br r=(hrow r h).choose:=fun r h=>dif_pos h;let cr:Nat→Nat:=fun r=>if h:r<6 then (hrow r h).choose_spec.choose else 0
 have hcr:∀r (h:r<6),cr r=(hrow r h).choose_spec.choose:=fun r h=>dif_pos h;have spec:∀r,r<6→us[r]?=some (.slice (some ⟨br r,0,none⟩) wd (cr r))∧base≤br r∧wd≤cr r∧cr r≤9223372036854775807∧∃cu:Array Value,w.heap[br r]?=some (.cells cu eI (0,0))∧∀i,i<wd→cu[i]?=some (.int .i64 ((M r i).n:Int)):=fun r h=>by rw[hbr r h,hcr r h];exact (hrow r h).choose_spec.choose_spec
 refine⟨br,cr,cur,⟨hh,fun r hr=>?_,fun r hr=>(spec r hr).2.2.2.2,fun r s hr hs he=>?_,fun r hr he=>?_,fun r hr=>(spec r hr).2.1,hg,fun r hr=>⟨(spec r hr).2.2.1,(spec r hr).2.2.2.1⟩⟩⟩
 ·have:=(spec r hr).1;rw[←htk,yB,if_pos hr]at this;simpa using this
 ·rcases Nat.decEq r s with hne'|heq
  ·exact absurd (by rw[he];rfl) (d r s _ _ (br r) hne' (spec r hr).1 (spec s hs).1 rfl)
  ·exact heq
 ·obtain⟨cu,h1,_⟩:=(spec r hr).2.2.2.2;rw[he,hh]at h1;injection h1 with h1;injection h1 with _ h2;exact hne h2
theorem rq(n:Nat)(hn:n≤1000000)(w:World):(Instr.makeSlice 22 (.int .i64 (n:Int)) (.int .i64 (n:Int))).run prog w=.ok (.slice (some ⟨w.heap.size,0,none⟩) n n) (w.alloc (.cells (madeCells #[.int .i64 0] n) 3)) :=
 run_make_row' 22 3 (.int .i64 0) 8 underlying22 Tryz.infoI rfl .i64 .i64 n (by omega) (by omega) w
theorem qS(n:Nat):(madeCells #[Value.int .i64 0] n)=((wI (List.replicate n 0)).map (Value.int .i64)).toArray:=by
 apply Array.ext
 ·simp[madeCells,wI]
 ·intro i h1 h2;simp[madeCells,wI,Nat.mod_one,F.n_zero]
theorem mD{e size:Nat}{xs:List Value}(h:w.ownsRow base e size v n xs):∃A c,v=.slice A n c∧n≤c∧c≤9223372036854775807:=by
 rcases h.2 with ⟨rfl,rfl⟩|⟨g,cap,cur,rfl,_,_,h1,h2,_⟩
 ·exact⟨none,0,rfl,zX _,by omega⟩
 ·exact⟨_,_,rfl,h1,h2⟩
theorem ao.of_own'{e:Nat}{l:List Int}(h:w.ownsRow base e 1 v n (l.map (Value.int .i64)))(hp:v.ownBlock≠some p)(hb:∀x∈l,aC x)(hl:l.length≤9223372036854775807):ao p w v l:=by
 have hn:l.length=n:=by simpa using h.1
 rcases h.2 with ⟨rfl,rfl⟩|⟨g,cap,cur,rfl,hg,hh,hnc,hcm,hcs,htk⟩
 ·obtain rfl:l=[]:=yO hn;exact ao.nil p w
 ·subst hn;refine⟨_,cap,rfl,hnc,hcm,hl,hb,fun k x hx=>⟨g,0,rfl,(fun e=>hp (by simp[Value.ownBlock,e])),?_⟩⟩;have hk:=(zY.1 hx).1;rw[yV,h.cellAt k (by omega)];simp[hx]
theorem rF{ps:List Nat}(h:∀p∈ps,p<1000000):∀x∈ng ps,aC x:=by intro x hx;unfold ng at hx;obtain⟨q,hq,rfl⟩:=zJ.1 hx;have:=h q hq;constructor<;>omega
def r9{α:Type}(a b:List α)(k:Nat):Prop:=∀j,j<k→a[j]?=b[j]?
section
variable {α:Type} {a b:List α} {k:Nat} {x y:α}
theorem r9.zero(a b:List α):r9 a b 0:=fun j hj=>by omega
theorem r9.succ(h:r9 a b k)(hx:a[k]?=some x)(hy:b[k]?=some y)(e:x=y):r9 a b (k+1):=by
 intro j hj;by_cases c:j=k
 ·subst c;rw[hx,hy,e]
 ·exact h j (by omega)
theorem r9.all(h:r9 a b n)(ha:a.length=n)(hb:b.length=n):a=b:=by
 apply wT;intro j;rcases zV j n with hj|hj
 ·exact h j hj
 ·rw[yH (by omega),yH (by omega)]
theorem Id(hx:a[k]?=some x)(hy:b[k]?=some y)(e:x≠y):a≠b:=by rintro rfl;rw[hx]at hy;exact e (xN hy)
end
theorem Fw(va vb:Value)(a b:List Int)(w:World){q:Nat}(ha:ao p w va a)(hb:ao q w vb b) :
  Calls prog 12 #[va,vb] w fun e w'=>e=.returned (.bool (decide (a=b)))∧∃m,w'=w.drewN m:=by
 obtain⟨A,n,c,rfl,hnc,hc,hnn,HL⟩:=ha.open_;obtain⟨B,n',c',rfl,hnc',hc',hnn',HL'⟩:=hb.open_;have HA:=zZ ha;have HB:=zZ hb;clear ha hb;by_cases hn:n=n'
 ·subst hn;go_enter func12,ntmps12
  go_wp2_with fail;go_loopw [5] (fun i wr=>∃(k m:Nat),k≤n∧i=.int .i64 k∧Hid (r9 a b k)∧wr=w.drewN m) (fun i _=>n-(intOf i).toNat)
  case atStart=>exact⟨0,0,yK _,rfl,r9.zero _ _,rfl⟩
  case round =>
   obtain⟨k,m,hk,rfl,HK,rfl⟩:=hrel;by_cases hlt:k<n
   ·obtain⟨b1,o1,x,rfl,hcx,HX,hx1,hx2⟩:=HA.out.at_ hlt;obtain⟨b2,o2,y,rfl,hcy,HY,hy1,hy2⟩:=HB.out.at_ hlt;by_cases e:x=y
    ·have e1:(x != y)=false:=by simp[e]
     have E:=zZ e;clear e;go_wp2_with fail;go_quiet (fail)
     go_wp2_with fail;go_roundw
     case rel=>exact⟨k+1,_,by omega,by go_num,HK.out.succ HX.out HY.out E.out,rfl⟩
     case measure=>simp[intOf];omega
    ·have e1:(x != y)=true:=by simp[e]
     have E:=zZ e;clear e;go_wp2_with fail;go_quiet (fail)
     go_wp2_with fail;go_ret
     exact⟨aa (by have:=Id HX.out HY.out E.out;simp[this]),_,World.drewN_drewN _ _ _⟩
   ·obtain rfl:k=n:=by omega
    go_wp2_with fail;go_ret
    exact⟨aa (by have:=HK.out.all HL.out HL'.out;simp[this]),_,rfl⟩
 ·have e1:((n:Int)!=(n':Int))=true:=by simp;omega
  have HN:Hid (a≠b):=by rintro rfl;exact hn (HL.out.symm.trans HL'.out)
  clear hn;go_enter func12,ntmps12
  go_wp2_with fail;go_ret
  exact⟨aa (by have:=HN.out;simp[this]),0,rfl⟩
theorem dH(va vb:Value)(a b:List Int)(w:World){q:Nat}(ha:ao p w va a)(hb:ao q w vb b) :
  Calls prog 12 #[va,vb] w fun e w'=>e=.returned (.bool (decide (a=b)))∧ab w w' :=
 (Fw va vb a b w ha hb).mono fun _ _ ⟨he,m,hm⟩=>⟨he,by rw[hm];exact (zE _).drewN _⟩
end Go.Proofs.YtjgfgdcaocbfhaaGreat

