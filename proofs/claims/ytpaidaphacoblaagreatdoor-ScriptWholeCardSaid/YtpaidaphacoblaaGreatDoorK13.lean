import Derived.Shelf.Strings.BuilderK
import Derived.Shelf.Strings.Count
import Derived.Shelf.Strings.Repeat
import Derived.Test.YtpaidaphacoblaaGreatDoorProg
import Derived.Lib.BufferRead
import Derived.Test.YtpaidaphacoblaaGreatDoorK12
set_option linter.all false
set_option maxRecDepth 100000
set_option maxHeartbeats 0
namespace Go.Proofs.YtpaidaphacoblaaGreatDoor
open Go.Value renaming int→A,slice→D
open Go.IntKind renaming i64→C
open Go.Shelf Go.RowKit
def K7:Go.Shelf.Ren:=⟨fun|169=>169|240=>196|276=>206|167=>168|n=>n,fun|9=>9|3=>3|4=>4|20=>20|0=>0|5=>5|72=>238|70=>236|37=>200|75=>240|127=>260|164=>266|80=>242|n=>n,fun|n=>n⟩
theorem KT:Go.Proofs.Lays.n167 Tryz.prog K7:={
 mixed:=by kernel_rfl
 f167:=Tryz.func168.trans (congrArg some (by kernel_rfl))
 f240:=Tryz.func196.trans (congrArg some (by kernel_rfl))
 f276:=Tryz.func206.trans (congrArg some (by kernel_rfl))
 t0:=Tryz.underlying0
 a0:=Tryz.isAgg0
 z0:=Tryz.sizeOf0
 v0:=Tryz.zeroValue0
 t4:=Tryz.underlying4
 a4:=Tryz.isAgg4
 z4:=Tryz.sizeOf4
 v4:=Tryz.zeroValue4
 t5:=Tryz.underlying5
 a5:=Tryz.isAgg5
 z5:=Tryz.sizeOf5
 v5:=Tryz.zeroValue5
 t9:=Tryz.underlying9
 a9:=Tryz.isAgg9
 z9:=Tryz.sizeOf9
 v9:=Tryz.zeroValue9
 t20:=Tryz.underlying20
 a20:=Tryz.isAgg20
 z20:=Tryz.sizeOf20
 v20:=Tryz.zeroValue20
 t37:=Tryz.underlying200
 a37:=Tryz.isAgg200
 z37:=Tryz.sizeOf200
 v37:=Tryz.zeroValue200
 t70:=Tryz.underlying236
 a70:=Tryz.isAgg236
 z70:=Tryz.sizeOf236
 v70:=Tryz.zeroValue236
 t72:=Tryz.underlying238
 a72:=Tryz.isAgg238
 z72:=Tryz.sizeOf238
 v72:=Tryz.zeroValue238
 t75:=Tryz.underlying240
 a75:=Tryz.isAgg240
 z75:=Tryz.sizeOf240
 v75:=Tryz.zeroValue240
 t164:=Tryz.underlying266
 a164:=Tryz.isAgg266
 z164:=Tryz.sizeOf266
 v164:=Tryz.zeroValue266 }
theorem KU:Go.Proofs.Lays.n169 Tryz.prog K7:={
 mixed:=by kernel_rfl
 f169:=Tryz.func169.trans (congrArg some (by kernel_rfl))
 t0:=Tryz.underlying0
 a0:=Tryz.isAgg0
 z0:=Tryz.sizeOf0
 v0:=Tryz.zeroValue0
 t3:=Tryz.underlying3
 a3:=Tryz.isAgg3
 z3:=Tryz.sizeOf3
 v3:=Tryz.zeroValue3
 t9:=Tryz.underlying9
 a9:=Tryz.isAgg9
 z9:=Tryz.sizeOf9
 v9:=Tryz.zeroValue9
 t37:=Tryz.underlying200
 a37:=Tryz.isAgg200
 z37:=Tryz.sizeOf200
 v37:=Tryz.zeroValue200
 t70:=Tryz.underlying236
 a70:=Tryz.isAgg236
 z70:=Tryz.sizeOf236
 v70:=Tryz.zeroValue236
 t72:=Tryz.underlying238
 a72:=Tryz.isAgg238
 z72:=Tryz.sizeOf238
 v72:=Tryz.zeroValue238
 t127:=Tryz.underlying260
 a127:=Tryz.isAgg260
 z127:=Tryz.sizeOf260
 v127:=Tryz.zeroValue260 }
theorem Lp:Builder.Extra Tryz.prog K7:={
 sizeBuilder:=by kernel_rfl
 liesBuilder:=by kernel_rfl
 t5:=Tryz.underlying5
 a5:=Tryz.isAgg5
 z5:=Tryz.sizeOf5
 v5:=Tryz.zeroValue5
 infoByte:=by kernel_rfl
 cellsByte:=by kernel_rfl
 sizeByte:=by kernel_rfl
 neB5:=by decide }
def LI:Go.Shelf.Ren:=⟨fun|138=>167|195=>193|218=>194|143=>195|219=>205|217=>209|225=>210|224=>211|267=>212|266=>213|314=>214|n=>n,fun|9=>9|3=>3|4=>4|5=>5|0=>0|46=>147|146=>226|51=>185|n=>n,fun|1=>2|n=>n⟩
theorem KL:Go.Proofs.Lays.n138 Tryz.prog LI:={
 mixed:=by kernel_rfl
 f138:=Tryz.func167.trans (congrArg some (by kernel_rfl))
 f143:=Tryz.func195.trans (congrArg some (by kernel_rfl))
 f195:=Tryz.func193.trans (congrArg some (by kernel_rfl))
 f217:=Tryz.func209.trans (congrArg some (by kernel_rfl))
 f218:=Tryz.func194.trans (congrArg some (by kernel_rfl))
 f219:=Tryz.func205.trans (congrArg some (by kernel_rfl))
 f224:=Tryz.func211.trans (congrArg some (by kernel_rfl))
 f225:=Tryz.func210.trans (congrArg some (by kernel_rfl))
 f266:=Tryz.func213.trans (congrArg some (by kernel_rfl))
 f267:=Tryz.func212.trans (congrArg some (by kernel_rfl))
 f314:=Tryz.func214.trans (congrArg some (by kernel_rfl))
 t0:=Tryz.underlying0
 a0:=Tryz.isAgg0
 z0:=Tryz.sizeOf0
 v0:=Tryz.zeroValue0
 t3:=Tryz.underlying3
 a3:=Tryz.isAgg3
 z3:=Tryz.sizeOf3
 v3:=Tryz.zeroValue3
 t4:=Tryz.underlying4
 a4:=Tryz.isAgg4
 z4:=Tryz.sizeOf4
 v4:=Tryz.zeroValue4
 t5:=Tryz.underlying5
 a5:=Tryz.isAgg5
 z5:=Tryz.sizeOf5
 v5:=Tryz.zeroValue5
 t9:=Tryz.underlying9
 a9:=Tryz.isAgg9
 z9:=Tryz.sizeOf9
 v9:=Tryz.zeroValue9
 t46:=Tryz.underlying147
 a46:=Tryz.isAgg147
 z46:=Tryz.sizeOf147
 v46:=Tryz.zeroValue147
 t51:=Tryz.underlying185
 a51:=Tryz.isAgg185
 z51:=Tryz.sizeOf185
 v51:=Tryz.zeroValue185
 t146:=Tryz.underlying226
 a146:=Tryz.isAgg226
 z146:=Tryz.sizeOf226
 v146:=Tryz.zeroValue226
 g1:=by kernel_rfl }
theorem rt(B b:Nat)(bs:List Value)(c:Int)(w:World)(h:Lib.IsBuilderF 238 5 B b bs w)(hlen:bs.length+1<=140737488355328)(hBw:B<=w.heap.size) :
  Calls Tryz.prog 168 #[.pointer (some ⟨b,0,none⟩),.int .u8 c] w fun e w'=>e=.returned .nilIface/\(Lib.BuilderAtF 238 5 B b (.pointer (some ⟨b,0,none⟩)) (bs++[.int .u8 c]) w'/\Below B w w'/\Lib.OthersKept 5 (some b) w w') :=
 Any.Builder_WriteByte_k KT Lp B b bs c w h hlen hBw
theorem Ea(B b:Nat)(l:List UInt8)(w:World)(h:Lib.IsBuilderF 238 5 B b (Lib.byteCells l) w)(hBw:B<=w.heap.size) :
  Calls Tryz.prog 169 #[.pointer (some ⟨b,0,none⟩)] w fun e w'=>e=.returned (.string ⟨l.toArray⟩)/\(Lib.IsBuilderF 238 5 B b (Lib.byteCells l) w'/\Below B w w'/\Lib.OthersKept 5 (some b) w w') :=
 Any.Builder_String_any_k KU Lp B b l w h hBw
theorem Kh(s:ByteArray)(c:UInt8)(w:World) :
  Calls Tryz.prog 167 #[.string s,.string ⟨#[c]⟩] w fun e w'=>e=.returned (A C (Lib.countByte s.data.toList c))/\w=w' :=
 (Any.strings_Count_one KL s c w).mono fun _ _ ⟨he,hw⟩=>⟨he,hw.symm⟩
end Go.Proofs.YtpaidaphacoblaaGreatDoor

namespace Go.Proofs.YtpaidaphacoblaaGreatDoor
open Go.Value renaming int→A,slice→D
open Go.IntKind renaming i64→C
open Go.RowKit _root_.Go.Proofs.Tryz
variable {k n:Nat} {s:List UInt8}
theorem Tryz.infoU8:(prog.info? 5).map (fun i=>(i.zero,i.size,i.bytes))=some (some (.int .u8 0),1,1):=by kernel_rfl
theorem Fg{α:Type}{l:List α}{x:α}(h:l[k]?=some x):(l.drop k)=x::l.drop (k+1):=by obtain⟨hk,rfl⟩:=zY.1 h;exact vZ hk
theorem zd{l:List UInt8}{x:UInt8}(h:l[k]?=some x):(l.drop (k+1)).reverse++[x]=(l.drop k).reverse:=by rw[Fg h,List.reverse_cons]
theorem GF(s:ByteArray)(w:World)(hs:s.size<=140737488351232) :
  Calls prog 143 #[.string s] w fun e w'=>∃t,e=.returned (.string t)/\bl t=(bl s).reverse/\ab w w':=by
 have HL:=zZ (aO s);go_enter func143,ntmps143
 go_wp2_with fail;go_loopw [4] (fun i wr=>∃k:Nat,k<=s.size/\i=A C ((k:Int)-1)/\Hid (Lib.IsBuilderF 238 5 w.heap.size w.heap.size (Lib.byteCells ((bl s).drop k).reverse) wr)/\Hid (ab w wr)) (fun i _=>((intOf i)+1).toNat)
 case atStart=>exact⟨s.size,zX _,rfl,by show Lib.IsBuilderF _ _ _ _ _ _;rw[uF (by rw[HL.out];exact zX _)];exact Lib.IsBuilderF.of (Lib.fresh_isBuilder _ _ w),(zE _).alloc _⟩
 case round =>
  obtain⟨k,hk,rfl,HB,HE⟩:=hrel;have hsz:=HE.out.size;by_cases h0:0<k
  ·obtain⟨j,rfl⟩:∃j,k=j+1:=⟨k-1,by omega⟩
   have hj:j<s.size:=by omega
   have HX:=zZ (nJ hj);have e1:(((j+1:Nat):Int)-1)=(j:Int):=by omega
   rw[e1];clear e1;go_wp2_with fail;refine (rt w.heap.size w.heap.size _ _ _ HB.out (by rw[Lib.byteCells_length,List.length_reverse,wD,HL.out];omega) hsz).mono ?_;rintro e w1 ⟨rfl,h1,b1,k1⟩;have HB1:Hid (Lib.IsBuilderF 238 5 w.heap.size w.heap.size (Lib.byteCells ((bl s).drop j).reverse) w1):=by
    show Lib.IsBuilderF _ _ _ _ _ _
    rw[<-zd HX.out,Lib.byteCells_append];exact Or.inr h1
   have HE1:Hid (ab w w1):=xD HE.out b1;clear h1 b1 k1 HB HE;go_wp2_with fail;go_roundw
   case rel=>exact⟨j,by omega,rfl,HB1,HE1⟩
   case measure=>simp[intOf]
  ·obtain rfl:k=0:=by omega
   go_wp2_with fail;refine (Ea w.heap.size w.heap.size _ _ HB.out hsz).mono ?_;rintro e w1 ⟨rfl,h1,b1,k1⟩;clear h1 k1;go_wp2_with fail;go_ret
   exact⟨_,rfl,by rw[Dz],xD HE.out b1⟩
theorem Fl(w:World){base:Nat}{v:Value}{l:List UInt8}(h:w.ownsRow base 5 1 v n (Lib.byteCells l))(hn:n<=1000000) :
  ∃t,(convert 200 9 v).run prog w=.ok (.string t) w/\bl t=l:=by
 have hn1:n=l.length:=by have:=h.1;rw[Lib.byteCells_length]at this;omega
 rcases h.2 with ⟨rfl,hnil⟩|⟨g,cap,cur,rfl,hg,hh,hnc,hcm,hcs,htk⟩
 ·obtain rfl:l=[]:=xZ (by omega);exact⟨⟨#[]⟩,Lib.run_convert_nil_bytes w _ _ 5 0 underlying200 underlying5 underlying9,rfl⟩
 ·subst hn1;refine⟨⟨l.toArray⟩,?_,Dz l⟩;exact run_convert_bytes_back w _ _ 5 ⟨g,0,none⟩ cap l underlying200 underlying5 underlying9 (fun j hj=>Lib.bytes_of_row hh (by simpa using htk) j hj)
theorem pk(s:ByteArray)(w:World)(hs:s.size<=1000000) :
  Calls prog 88 #[.string s] w fun e w'=>∃t,e=.returned (.string t)/\bl t=(bl s).reverse/\ab w w':=by
 have HL:=zZ (aO s);obtain⟨i0,hi0,hz0,hz1,hz2⟩:=info_parts Tryz.infoU8;go_enter func88,ntmps88
 go_wp2_with fail;go_loopw [3,4] (fun v i wr=>∃k:Nat,k<=s.size/\i=A C ((k:Int)-1)/\Hid (wr.ownsRow w.heap.size 5 1 v (s.size-k) (Lib.byteCells ((bl s).drop k).reverse))/\Hid (ab w wr)) (fun _ i _=>((intOf i)+1).toNat)
 case atStart=>exact⟨s.size,zX _,rfl,by show World.ownsRow _ _ _ _ _ _ _;rw[uF (by rw[HL.out];exact zX _),vH];exact yZ _ _ _ _,zE _⟩
 case round =>
  obtain⟨k,hk,rfl,HO,HE⟩:=hrel;have hsz:=HE.out.size;by_cases h0:0<k
  ·obtain⟨j,rfl⟩:∃j,k=j+1:=⟨k-1,by omega⟩
   have hj:j<s.size:=by omega
   have HX:=zZ (nJ hj);have e1:(((j+1:Nat):Int)-1)=(j:Int):=by omega
   rw[e1];clear e1;go_wp2_with (at_builtin;refine aF _ rfl (.tmp 12) (.tmp 16) 200 rfl w.heap.size 5 i0 _ 1 underlying200 hi0 hz0 hz1 hz2 rfl _ _ _ rfl (HO.out.alloc _) _ _ rfl (ac (heap_alloc_new _ _) rfl) rfl (by omega) (by omega) (by simp;omega) ?_;intro v' w' hown hg);go_roundw
   case rel =>
    refine⟨j,by omega,rfl,?_,?_⟩
    ·show World.ownsRow _ _ _ _ _ _ _
     rw[<-zd HX.out,Lib.byteCells_append,show s.size-j=s.size-(j+1)+1 by omega];exact hown
    ·exact ab.grown (HE.out.alloc _) hg (fun q hq=>aq HO.out q hq)
   case measure=>simp[intOf]
  ·obtain rfl:k=0:=by omega
   obtain⟨t,ht,hb⟩:=Fl wr HO.out (by omega);have HT:=zZ hb;clear hb;go_wp2_with fail;go_ret
   exact⟨_,rfl,by rw[HT.out,uZ],HE.out⟩
theorem mz(s:ByteArray)(c:UInt8)(w:World)(n:Nat)(h:(bl s).count c=n) :
  Calls prog 167 #[.string s,.string ⟨#[c]⟩] w fun e w'=>e=.returned (A C (n:Int))/\w=w':=by
 subst h;exact Kh s c w
theorem wt{b e:UInt8}{m:Nat}(h1:(s.take 7).count b=n)(h2:(s.drop 67).count e=m):du s b e=(decide (4<=n)&&decide (4<=m)):=by unfold du;rw[h1,h2]
theorem iE(s:ByteArray)(b e:UInt8)(w:World)(hs:s.size=74) :
  Calls prog 142 #[.string s,.string ⟨#[b]⟩,.string ⟨#[e]⟩] w fun r w'=>r=.returned (.bool (du (bl s) b e))/\w=w':=by
 have h74:74<=s.size:=by omega
 have h75:s.size<=74:=by omega
 obtain⟨n,hn⟩:∃n,((bl s).take 7).count b=n:=⟨_,rfl⟩
 obtain⟨m,hm⟩:∃m,((bl s).drop 67).count e=m:=⟨_,rfl⟩
 have HM:=zZ (wt hn hm);have H1:Hid ((bl (s.extract 0 7)).count b=n):=by show _=_;rw[sJ];exact hn
 have H2:Hid ((bl (s.extract 67 s.size)).count e=m):=by show _=_;rw[lF];exact hm
 clear hs hn hm;by_cases h4:4<=n
 ·go_enter func142,ntmps142
  go_wp2_with fail;refine (mz _ b _ n H1.out).mono ?_;rintro r w1 ⟨rfl,rfl⟩;go_wp2_with fail;refine (mz _ e _ m H2.out).mono ?_;rintro r w1 ⟨rfl,rfl⟩;go_wp2_with fail;go_ret
  exact⟨aa (by rw[HM.out];simp[h4];omega),rfl⟩
 ·go_enter func142,ntmps142
  go_wp2_with fail;refine (mz _ b _ n H1.out).mono ?_;rintro r w1 ⟨rfl,rfl⟩;go_wp2_with fail;go_ret
  exact⟨aa (by rw[HM.out];simp[h4]),rfl⟩
def Gb(s:List UInt8)(w:World)(e:Ending)(w':World):Prop:=∃t k,e=.returned (.tuple #[.string t,A C k])/\k=iM s/\bl t=jmq s/\ab w w'
theorem Dx(h:bd s=false):jmq s=[]/\iM s=7:=by unfold jmq iM;rw[h];exact⟨rfl,rfl⟩
theorem CE(h:bd s=true)(h1:du s 49 48=true):jmq s=s/\iM s=0:=by unfold jmq iM;rw[h,h1];exact⟨rfl,rfl⟩
theorem rz(h:bd s=true)(h1:du s 49 48=false)(h2:du s 48 49=true):jmq s=s.reverse/\iM s=0:=by unfold jmq iM;rw[h,h1,h2];exact⟨rfl,rfl⟩
theorem kQ(h:bd s=true)(h1:du s 49 48=false)(h2:du s 48 49=false):jmq s=[]/\iM s=26:=by unfold jmq iM;rw[h,h1,h2];exact⟨rfl,rfl⟩
theorem BX(s:ByteArray)(w:World):Calls prog 99 #[.string s] w (Gb (bl s) w):=by
 rcases yS (bd (bl s)) with hb|hb
 ·have hs:s.size=74:=by rw[<-aO];exact (gh.1 hb).1
  rcases yS (du (bl s) 49 48) with h1|h1
  ·obtain⟨u1,u2⟩:=CE hb h1;have U1:=zZ u1;have U2:=zZ u2;have HS:=zZ hs;clear u1 u2 hs;go_enter func99,ntmps99
   go_wp2_with fail;refine (fk _ _).mono ?_;rintro r w1 ⟨rfl,rfl⟩;rw[hb];go_wp2_with fail;refine (iE _ 49 48 _ HS.out).mono ?_;rintro r w1 ⟨rfl,rfl⟩;rw[h1];go_wp2_with fail;go_ret2
   exact⟨s,0,rfl,U2.out.symm,U1.out.symm,zE _⟩
  rcases yS (du (bl s) 48 49) with h2|h2
  ·obtain⟨u1,u2⟩:=rz hb h1 h2;have U1:=zZ u1;have U2:=zZ u2;have HS:=zZ hs;clear u1 u2 hs;go_enter func99,ntmps99
   go_wp2_with fail;refine (fk _ _).mono ?_;rintro r w1 ⟨rfl,rfl⟩;rw[hb];go_wp2_with fail;refine (iE _ 49 48 _ HS.out).mono ?_;rintro r w1 ⟨rfl,rfl⟩;rw[h1];go_wp2_with fail;refine (iE _ 48 49 _ HS.out).mono ?_;rintro r w1 ⟨rfl,rfl⟩;rw[h2];go_wp2_with fail;refine (GF s _ (by rw[HS.out];omega)).mono ?_;rintro r w1 ⟨t,rfl,ht,hx⟩;have HT:=zZ ht;have HX:=zZ hx;clear ht hx;go_wp2_with fail;go_ret2
   exact⟨t,0,rfl,U2.out.symm,by rw[U1.out,HT.out],HX.out⟩
  ·obtain⟨u1,u2⟩:=kQ hb h1 h2;have U1:=zZ u1;have U2:=zZ u2;have HS:=zZ hs;clear u1 u2 hs;go_enter func99,ntmps99
   go_wp2_with fail;refine (fk _ _).mono ?_;rintro r w1 ⟨rfl,rfl⟩;rw[hb];go_wp2_with fail;refine (iE _ 49 48 _ HS.out).mono ?_;rintro r w1 ⟨rfl,rfl⟩;rw[h1];go_wp2_with fail;refine (iE _ 48 49 _ HS.out).mono ?_;rintro r w1 ⟨rfl,rfl⟩;rw[h2];go_wp2_with fail;go_ret2
   exact⟨_,_,rfl,U2.out.symm,by rw[U1.out];rfl,zE _⟩
 ·obtain⟨u1,u2⟩:=Dx hb;have U1:=zZ u1;have U2:=zZ u2;clear u1 u2;go_enter func99,ntmps99
  go_wp2_with fail;refine (fk _ _).mono ?_;rintro r w1 ⟨rfl,rfl⟩;rw[hb];go_wp2_with fail;go_ret2
  exact⟨_,_,rfl,U2.out.symm,by rw[U1.out];rfl,zE _⟩
structure LE (base g:Nat) (tS tI:TypeId) (w:World) (M:Nat->Nat->F) (wd:Nat) (b cu:Nat->Nat) (hd:Array Value):Prop where
 head:w.heap[g]?=some (.cells hd tS (0,0))
 hdAt:∀r,r<6->hd[r]?=some (D (some ⟨b r,0,none⟩) wd (cu r))
 row:∀r,r<6->∃cur:Array Value,w.heap[b r]?=some (.cells cur tI (0,0))/\∀c,c<wd->cur[c]?=some (A C ((M r c).n:Int))
 inj:∀r s,r<6->s<6->b r=b s->r=s
 gne:∀r,r<6->b r≠g
 bge:∀r,r<6->base<=b r
 gge:base<=g
 cap:∀r,r<6->wd<=cu r/\cu r<=9223372036854775807
def dQ(base g:Nat)(tS tI:TypeId)(w:World)(M:Nat->Nat->F)(wd:Nat):Prop:=∃b cu hd,LE base g tS tI w M wd b cu hd
section
variable {base g wd:Nat} {tS tI:TypeId} {w w':World} {M N:Nat->Nat->F}
theorem dQ.keep(h:dQ base g tS tI w M wd)(e:∀k,base<=k->k<w.heap.size->w'.heap[k]?=w.heap[k]?):dQ base g tS tI w' M wd:=by obtain⟨b,cu,hd,h⟩:=h;refine⟨b,cu,hd,⟨(e g h.gge (al h.head)).trans h.head,h.hdAt,fun r hr=>?_,h.inj,h.gne,h.bge,h.gge,h.cap⟩⟩;obtain⟨cur,h1,h2⟩:=h.row r hr;exact⟨cur,(e _ (h.bge r hr) (al h1)).trans h1,h2⟩
theorem dQ.ext(h:dQ base g tS tI w M wd)(e:ab w w'):dQ base g tS tI w' M wd:=h.keep fun k _ hk=>e.block k hk
theorem dQ.xt{p:Nat}(h:dQ base g tS tI w M wd)(e:XT p w w')(hp:p<base):dQ base g tS tI w' M wd:=h.keep fun k hb hk=>e.block k hk (fun e=>by injection e;omega)
theorem dQ.congr(h:dQ base g tS tI w M wd)(e:∀r c,r<6->c<wd->M r c=N r c):dQ base g tS tI w N wd:=by obtain⟨b,cu,hd,h⟩:=h;refine⟨b,cu,hd,⟨h.head,h.hdAt,fun r hr=>?_,h.inj,h.gne,h.bge,h.gge,h.cap⟩⟩;obtain⟨cur,h1,h2⟩:=h.row r hr;exact⟨cur,h1,fun c hc=>by rw[<-e r c hr hc];exact h2 c hc⟩
theorem dQ.at_(h:dQ base g tS tI w M wd){r:Nat}(hr:r<6) :
  ∃b cu,w.cell? ⟨g,r,none⟩=some (D (some ⟨b,0,none⟩) wd cu)/\wd<=cu/\cu<=9223372036854775807/\base<=b/\b≠g /\
   (∀c,c<wd->w.cell? ⟨b,c,none⟩=some (A C ((M r c).n:Int)))/\(∀c,w.frozen? ⟨b,c,none⟩=false) /\
   (∀(w':World) (c:Nat) (y:F),ab w w'->dQ base g tS tI (w'.setCell ⟨b,c,none⟩ (A C (y.n:Int))) (F.upd M r c y) wd/\Below base w (w'.setCell ⟨b,c,none⟩ (A C (y.n:Int)))):=by
 obtain⟨b,cu,hd,h⟩:=h;obtain⟨cur,h1,h2⟩:=h.row r hr;refine⟨b r,cu r,ac h.head (h.hdAt r hr),(h.cap r hr).1,(h.cap r hr).2,h.bge r hr,h.gne r hr,fun c hc=>ac h1 (h2 c hc),fun c=>ae h1 c,fun w' c y e=>⟨⟨b,cu,hd,⟨?_,h.hdAt,fun s hs=>?_,h.inj,h.gne,h.bge,h.gge,h.cap⟩⟩,?_⟩⟩
 ·rw[yP _ _ _ _ (by simpa using (h.gne r hr).symm)];exact e.blk h.head
 ·by_cases es:s=r
  ·subst es;refine⟨_,bn (e.blk h1) _,fun c' hc'=>?_⟩;rw[vV];unfold F.upd;by_cases ec:c=c'
   ·subst ec;have:c<cur.size:=by have:=h2 c hc';exact (Array.getElem?_eq_some_iff.1 this).1
    rw[if_pos rfl,if_pos this,if_pos ⟨rfl,rfl⟩]
   ·rw[if_neg ec,if_neg (fun h=>ec h.2.symm)];exact h2 c' hc'
  ·obtain⟨cur',h3,h4⟩:=h.row s hs;have hb:b s≠b r:=fun e=>es (h.inj s r hs hr e);refine⟨cur',?_,fun c' hc'=>?_⟩
   ·rw[yP _ _ _ _ (by simpa using hb)];exact e.blk h3
   ·unfold F.upd;rw[if_neg (fun h=>es h.1)];exact h4 c' hc'
 ·have hlt:base<=w.heap.size:=yR (h.bge r hr) (Nat.le_of_lt (al h1));exact Below.setCell (Below.mono e hlt) (h.bge r hr) _
theorem dQ.frozAt(h:dQ base g tS tI w M wd){r b cu:Nat}(hr:r<6)(hc:w.cell? ⟨g,r,none⟩=some (D (some ⟨b,0,none⟩) n cu))(c:Nat):w.frozen? ⟨b,c,none⟩=false:=by obtain⟨b',cu',h0,_,_,_,_,_,h4,_⟩:=h.at_ hr;rw[hc]at h0;injection h0 with h0;injection h0 with h1;injection h1 with h1;injection h1 with h1;subst h1;exact h4 c
theorem dQ.swap(h:dQ base g tS tI w M wd){p:Nat}(hk:k<6)(hp:p<6) :
  ∃bk ck bp cp,w.cell? ⟨g,k,none⟩=some (D (some ⟨bk,0,none⟩) wd ck)/\w.cell? ⟨g,p,none⟩=some (D (some ⟨bp,0,none⟩) wd cp)/\w.frozen? ⟨g,k,none⟩=false/\w.frozen? ⟨g,p,none⟩=false /\
   ∀w':World,ab w w'->dQ base g tS tI ((w'.setCell ⟨g,k,none⟩ (D (some ⟨bp,0,none⟩) wd cp)).setCell ⟨g,p,none⟩ (D (some ⟨bk,0,none⟩) wd ck)) (F.swapM M k p) wd /\
    Below base w ((w'.setCell ⟨g,k,none⟩ (D (some ⟨bp,0,none⟩) wd cp)).setCell ⟨g,p,none⟩ (D (some ⟨bk,0,none⟩) wd ck)):=by
 obtain⟨b,cu,hd,h⟩:=h;have hsz:∀r,r<6->r<hd.size:=fun r hr=>(Array.getElem?_eq_some_iff.1 (h.hdAt r hr)).1;refine⟨b k,cu k,b p,cu p,ac h.head (h.hdAt k hk),ac h.head (h.hdAt p hp),ae h.head k,ae h.head p,fun w' e=>⟨?_,?_⟩⟩
 ·refine⟨fun r=>if r=k then b p else if r=p then b k else b r,fun r=>if r=k then cu p else if r=p then cu k else cu r,_,⟨bn (bn (e.blk h.head) _) _,fun r hr=>?_,fun r hr=>?_,fun r s hr hs he=>?_,fun r hr=>?_,fun r hr=>?_,h.gge,fun r hr=>?_⟩⟩
  ·rw[vV,vV,uN];by_cases e1:p=r
   ·subst e1;rw[if_pos rfl,if_pos (hsz p hp)];by_cases e2:p=k
    ·subst e2;simp
    ·simp[e2]
   ·rw[if_neg e1];by_cases e2:k=r
    ·subst e2;rw[if_pos rfl,if_pos (hsz k hk)];simp
    ·rw[if_neg e2,h.hdAt r hr];simp[Ne.symm e1,Ne.symm e2]
  ·have hkeep:∀s,s<6->((w'.setCell ⟨g,k,none⟩ (D (some ⟨b p,0,none⟩) wd (cu p))).setCell ⟨g,p,none⟩ (D (some ⟨b k,0,none⟩) wd (cu k))).heap[b s]?=w.heap[b s]?:=fun s hs=>by
    rw[yP _ _ _ _ (by simpa using h.gne s hs),yP _ _ _ _ (by simpa using h.gne s hs)];obtain⟨cur,h1,_⟩:=h.row s hs;exact e.block _ (al h1)
   unfold F.swapM;by_cases e1:r=k
   ·simp only[if_pos e1];rw[hkeep p hp];exact h.row p hp
   ·by_cases e2:r=p
    ·simp only[if_neg e1,if_pos e2];rw[hkeep k hk];exact h.row k hk
    ·simp only[if_neg e1,if_neg e2];rw[hkeep r hr];exact h.row r hr
  ·have hi:=h.inj;split at he
   ·split at he
    ·omega
    ·split at he
     ·have:=hi _ _ hp hk he;omega
     ·have:=hi _ _ hp hs he;omega
   ·split at he
    ·split at he
     ·have:=hi _ _ hk hp he;omega
     ·split at he
      ·omega
      ·have:=hi _ _ hk hs he;omega
    ·split at he
     ·have:=hi _ _ hr hp he;omega
     ·split at he
      ·have:=hi _ _ hr hk he;omega
      ·exact hi _ _ hr hs he
  ·split
   ·exact h.gne p hp
   ·split
    ·exact h.gne k hk
    ·exact h.gne r hr
  ·split
   ·exact h.bge p hp
   ·split
    ·exact h.bge k hk
    ·exact h.bge r hr
  ·split
   ·exact h.cap p hp
   ·split
    ·exact h.cap k hk
    ·exact h.cap r hr
 ·have hlt:base<=w.heap.size:=yR h.gge (Nat.le_of_lt (al h.head));exact Below.setCell (Below.setCell (Below.mono e hlt) h.gge _) h.gge _
end
theorem ab.below_trans{base:Nat}{w0 w w':World}(h:ab w0 w)(hb:w0.heap.size<=base)(k:Below base w w'):ab w0 w':=xD h (Below.mono k hb)
def ra(M:Nat->Nat->F)(u:Nat):Bool:=(List.range 6).all fun r=>decide (r<u)||(M r u==0)
theorem lq(M:Nat->Nat->F)(u:Nat):ra M u=true↔∀r,u<=r->r<6->M r u=0:=by
 unfold ra;simp only[xS,yX,Bool.or_eq_true,decide_eq_true_eq,beq_iff_eq];constructor
 ·intro h r h1 h2;rcases h r h2 with h3|h3
  ·omega
  ·exact h3
 ·intro h r hr;rcases zU r u with h1|h1
  ·exact .inl h1
  ·exact .inr (h r h1 hr)
theorem FJ(base g cap u:Nat)(M:Nat->Nat->F)(w:World)(hT:cK w)(hM:dQ base g 22 3 w M (u+1))(hu:u<=6)(hcap:6<=cap/\cap<=9223372036854775807)(hb2:2<=base)(ind:∀X,F.Sol M X (u+1)->X u=0->∀c,c<u->X c=0) :
  Calls prog 173 #[D (some ⟨g,0,none⟩) 6 cap,A C (u:Int)] w fun e w'=>∃M',e=.returned (.bool (ra M' u)) /\
   dQ base g 22 3 w' M' (u+1)/\F.Unit6 M' u/\(∀X,F.Sol M' X (u+1)↔F.Sol M X (u+1))/\Below base w w':=by
 have HT:=zZ hT;have HM:=zZ hM;have HI:=zZ ind;obtain⟨hcap1,hcap2⟩:=hcap;clear hT hM ind;have HTB:Hid (∀w',Below base w w'->cK w'):=fun w' h=>⟨fun k hk=>(h.cell (by simp only;omega)).trans (HT.out.1 k hk),fun k hk=>(h.cell (by simp only;omega)).trans (HT.out.2 k hk)⟩
 clear HT;go_enter func173,ntmps173
 go_wp2_with fail;go_loopw [14] (fun s14 wr=>∃(k:Nat),s14=A C k/\k<=u/\Hid (∃N,dQ base g 22 3 wr N (u+1)/\F.Unit6 N k/\(∀X,F.Sol N X (u+1)↔F.Sol M X (u+1))/\Below base w wr)) (fun i _=>u-(intOf i).toNat)
 case atStart=>exact⟨0,rfl,by omega,M,HM.out,fun r c _ hc=>by omega,fun X=>Iff.rfl,Below.refl _ _⟩
 case round =>
  clear HM;obtain⟨k,rfl,hk,HK⟩:=hrel;obtain⟨N,m1,m2,m3,m4⟩:=HK.out;have H1:=zZ m1;have H2:=zZ m2;have H3:=zZ m3;have H4:=zZ m4;clear m1 m2 m3 m4 HK;by_cases hku:k<u
  ·have hd:decide ((k:Int)<(u:Int))=true:=by simp;omega
   obtain⟨wo,rfl⟩:=nm (wr:World);have HP:Hid (∃p,k<=p/\p<6/\N p k≠0):=F.pivot_ex hku hu H2.out (fun X hX h0=>HI.out X ((H3.out X).1 hX) h0);go_wp2_with fail;go_loopw [6] (fun s6 wr=>∃(p:Nat),s6=A C p/\k<=p/\p<6/\Hid (∀q,k<=q->q<p->N q k=0)/\wr=wo) (fun i _=>6-(intOf i).toNat)
   case atStart=>exact⟨k,rfl,by omega,by omega,fun q h1 h2=>by omega,rfl⟩
   case round =>
    obtain⟨p,rfl,hkp,hp6,HQ,rfl⟩:=hrel;obtain⟨b,cu,hc0,hcu1,hcu2,-,-,hce,hfr,hput⟩:=H1.out.at_ hp6;have c1:=hce k (by omega);have HPUT:=zZ hput;clear hput hce hfr;have hd2:decide ((p:Int)<6)=true:=by simp;omega
    by_cases hz:N p k=0
    ·have hz':(((N p k).n:Int)==0)=true:=by rw[hz];rfl
     have HZ:=zZ hz;clear hz;go_wp2_with fail;go_roundw
     case rel =>
      obtain⟨p',a1,a2,a3⟩:=HP.out;have hnew:∀q,k<=q->q<p+1->N q k=0:=fun q h1 h2=>by
       by_cases e:q=p
       ·subst e;exact HZ.out
       ·exact HQ.out q h1 (by omega)
      have:p+1<=p':=by
       rcases zU p' (p+1) with hlt|hge
       ·exact absurd (hnew p' a1 hlt) a3
       ·exact hge
      exact⟨p+1,by go_num,by omega,by omega,hnew,trivial⟩
     case measure=>simp[intOf];omega
    ·have hz':(((N p k).n:Int)==0)=false:=by rw[lk];simp[hz]
     have HZ:=zZ hz;clear hz;go_upto_region 9 with (fail)
     obtain⟨bk,ck,bp,cp,s1,s2,s3,s4,hsw⟩:=H1.out.swap (k:=k) (p:=p) (by omega) hp6;have HSW:=zZ hsw;have HC1:=zZ c1;clear hsw hc0 c1 HPUT;have hS:wr.drew.cell? ⟨g,k,none⟩=some (D (some ⟨bk,0,none⟩) (u+1) ck)/\wr.drew.cell? ⟨g,p,none⟩=some (D (some ⟨bp,0,none⟩) (u+1) cp):=⟨s1,s2⟩
     replace hS:=zZ hS;have e1:(0:Int)<=(k:Int):=xT _;have e2:(k:Int)<6:=by omega
     have e3:(0:Int)<=(p:Int):=xT _;have e4:(p:Int)<6:=by omega
     refine Bn 13 (fun w'=>w'.cell? ⟨g,k,none⟩=some (D (some ⟨bk,0,none⟩) (u+1) ck)/\w'.cell? ⟨g,p,none⟩=some (D (some ⟨bp,0,none⟩) (u+1) cp)) (by kernel_rfl) ?_;refine bD 0 (some 38) (v:=?kv1) rfl rfl (by kernel_rfl) (by kernel_rfl) (by kernel_rfl) (by decide) (fun _ _ _ h=>h) (by rfl) ?ky1 (fun _=>hS.out) ?kr1;case ky1=>(intro wk;go_simp;try with_reducible rfl)
     try simp only[kA]
     refine bD 1 (some 39) (v:=?kv2) rfl rfl (by kernel_rfl) (by kernel_rfl) (by kernel_rfl) (by decide) (fun _ _ _ h=>h) (by rfl) ?ky2 (fun _=>hS.out) ?kr2;case ky2=>(intro wk;go_simp;try with_reducible rfl)
     try simp only[kA]
     refine bD 2 (some 40) (v:=?kv3) rfl rfl (by kernel_rfl) (by kernel_rfl) (by kernel_rfl) (by decide) (fun _ _ _ h=>h) (by rfl) ?ky3 (fun _=>hS.out) ?kr3;case ky3=>(intro wk;go_simp;try with_reducible rfl)
     try simp only[kA]
     refine bD 3 (some 41) (v:=?kv4) rfl rfl (by kernel_rfl) (by kernel_rfl) (by kernel_rfl) (by decide) (fun _ _ _ h=>h) (by rfl) ?ky4 (fun _=>hS.out) ?kr4;case ky4=>(intro wk;go_simp;try with_reducible rfl)
     try simp only[kA]
     refine bD 4 (some 42) (v:=?kv5) rfl rfl (by kernel_rfl) (by kernel_rfl) (by kernel_rfl) (by decide) (fun _ _ _ h=>h) (by rfl) ?ky5 (fun _=>hS.out) ?kr5;case ky5=>(intro wk;go_simp;try with_reducible rfl)
     try simp only[kA]
     refine bD 5 (some 43) (v:=?kv6) rfl rfl (by kernel_rfl) (by kernel_rfl) (by kernel_rfl) (by decide) (fun _ _ _ h=>h) (by rfl) ?ky6 (fun _=>hS.out) ?kr6;case ky6=>(intro wk;go_simp;try with_reducible rfl)
     try simp only[kA]
     refine bD 6 (some 44) (v:=?kv7) rfl rfl (by kernel_rfl) (by kernel_rfl) (by kernel_rfl) (by decide) (fun _ _ _ h=>h) (by rfl) ?ky7 (fun _=>hS.out) ?kr7;case ky7=>(intro wk;go_simp;try with_reducible rfl)
     try simp only[kA]
     refine pz 7 (some 45) (v:=?kv8) rfl rfl (by kernel_rfl) (by kernel_rfl) (by kernel_rfl) (by decide) (by kernel_rfl) (by kernel_rfl) (fun _ _ _ h=>h) (by rfl) ?ky8 hS.out ?kr8;case ky8=>((intro wk hk);(try dsimp only at hk);go_simp;try with_reducible rfl)
     try simp only[kA]
     refine bD 8 (some 46) (v:=?kv9) rfl rfl (by kernel_rfl) (by kernel_rfl) (by kernel_rfl) (by decide) (fun _ _ _ h=>h) (by rfl) ?ky9 (fun _=>hS.out) ?kr9;case ky9=>(intro wk;go_simp;try with_reducible rfl)
     try simp only[kA]
     refine bD 9 (some 47) (v:=?kv10) rfl rfl (by kernel_rfl) (by kernel_rfl) (by kernel_rfl) (by decide) (fun _ _ _ h=>h) (by rfl) ?ky10 (fun _=>hS.out) ?kr10;case ky10=>(intro wk;go_simp;try with_reducible rfl)
     try simp only[kA]
     refine bD 10 (some 48) (v:=?kv11) rfl rfl (by kernel_rfl) (by kernel_rfl) (by kernel_rfl) (by decide) (fun _ _ _ h=>h) (by rfl) ?ky11 (fun _=>hS.out) ?kr11;case ky11=>(intro wk;go_simp;try with_reducible rfl)
     try simp only[kA]
     refine pz 11 (some 49) (v:=?kv12) rfl rfl (by kernel_rfl) (by kernel_rfl) (by kernel_rfl) (by decide) (by kernel_rfl) (by kernel_rfl) (fun _ _ _ h=>h) (by rfl) ?ky12 hS.out ?kr12;case ky12=>((intro wk hk);(try dsimp only at hk);go_simp;try with_reducible rfl)
     try simp only[kA]
     refine bD 12 (some 50) (v:=?kv13) rfl rfl (by kernel_rfl) (by kernel_rfl) (by kernel_rfl) (by decide) (fun _ _ _ h=>h) (by rfl) ?ky13 (fun _=>hS.out) ?kr13;case ky13=>(intro wk;go_simp;try with_reducible rfl)
     try simp only[kA]
     refine qQ 13 (by kernel_rfl) rfl (fun K hK=>?_);go_simp;have s5:(wr.setCell ⟨g,k,none⟩ (D (some ⟨bp,0,none⟩) (u+1) cp)).cell? ⟨g,p,none⟩=some (D (some ⟨bp,0,none⟩) (u+1) cp):=by
      by_cases e:p=k
      ·subst e;exact World.cell?_setCell_same _ _ _ s2
      ·rw[World.cell?_setCell_other _ _ _ _ (fun h=>e (by injection h with _ h2;exact h2.symm))];exact s2
     refine hK.out _ _ (fh (by kernel_rfl)) ?_;clear hK K;try simp only[kA]
     refine bD 14 (some 51) (v:=?kv14) rfl rfl (by kernel_rfl) (by kernel_rfl) (by kernel_rfl) (by decide) (fun _ _ _ h=>h) (by rfl) ?ky14 (fh (by kernel_rfl)) ?kr14;case ky14=>(intro wk;go_simp;try with_reducible rfl)
     try simp only[kA]
     refine qQ 15 (by kernel_rfl) rfl (fun K hK=>?_);go_simp;refine hK.out _ _ (fh (by kernel_rfl)) ?_;clear hK K;try simp only[kA]
     refine AD (by kernel_rfl) ?_ _;have hM1:=HSW.out wr (zE _);have HM1:=zZ (hM1.1.ext (zE _).drew);have HB1:=zZ ((xD H4.out hM1.2).drew);clear hM1 HSW hS s1 s2 s3 s4 s5;generalize ((wr.setCell ⟨g,k,none⟩ (D (some ⟨bp,0,none⟩) (u+1) cp)).setCell ⟨g,p,none⟩ (D (some ⟨bk,0,none⟩) (u+1) ck)).drew=W1 at *
     have HNK:Hid (F.swapM N k p k k=N p k):=by show _=_;unfold F.swapM;rw[if_pos rfl]
     generalize hM1:F.swapM N k p=M1 at *
     have HM1d:=zZ hM1;clear hM1 HC1 H1 H4;obtain⟨b1,cu1,h10,h11,h12,-,-,h13,-,-⟩:=HM1.out.at_ (r:=k) (by omega);have h14:=h13 k (by omega);rw[HNK.out]at h14;clear h13;generalize hpv:N p k=pv at *
     have HPV:=zZ hpv;clear hpv;go_upto_region 12 with (go_at_call 198;refine (EF pv _ (HTB.out _ HB1.out)).mono ?_;rintro e x1 ⟨rfl,hx1⟩;replace hx1:=hx1.symm;subst hx1)
     clear h10 h14;go_wp2_with fail;go_loopw [65] (fun s65 wr=>∃(c:Nat),s65=A C c/\c<=u+1/\Hid (dQ base g 22 3 wr (F.scaleTo M1 k pv.inv c) (u+1)/\Below base w wr)) (fun i _=>u+1-(intOf i).toNat)
     case atStart=>exact⟨0,rfl,by omega,by rw[F.scaleTo_zero];exact HM1.out,HB1.out⟩
     case round =>
      clear HM1 HB1;obtain⟨c,rfl,hc,HC⟩:=hrel;by_cases hcu:c<u+1
      ·obtain⟨b2,cu2,a0,a1,a2,-,-,a3,a4,a5⟩:=HC.out.1.at_ (r:=k) (by omega);have a6:=a3 c (by omega);have a7:=a4 c;have HPUT:=zZ a5;clear a3 a4 a5;have hv:F.scaleTo M1 k pv.inv c k c=M1 k c:=by unfold F.scaleTo;rw[if_neg (by omega)]
       rw[hv]at a6;clear hv;have HTr:=zZ (HTB.out _ HC.out.2);have hS:wr.drew.cell? ⟨g,k,none⟩=some (D (some ⟨b2,0,none⟩) (u+1) cu2)/\wr.drew.cell? ⟨b2,c,none⟩=some (A C ((M1 k c).n:Int)):=⟨a0,a6⟩
       replace hS:=zZ hS;have f1:(0:Int)<=(c:Int):=xT _;have f2:(c:Int)<(u:Int)+1:=by omega
       go_upto_region 14 with (fail)
       refine zR 15 (fun w'=>w'.cell? ⟨g,k,none⟩=some (D (some ⟨b2,0,none⟩) (u+1) cu2)/\w'.cell? ⟨b2,c,none⟩=some (A C ((M1 k c).n:Int))) ?_;refine zS 13 [(0,68),(1,69),(2,70),(3,71),(4,72),(5,73),(6,74),(7,75),(8,76),(9,77),(10,78),(11,79),(12,80)] hS.out ?_;iterate 13 refine zT ?_
       refine zN (zO 13 (fun K hK=>?_));go_simp;refine (AM (M1 k c) pv.inv _ (HTr.out.ext (zE _).drew)).mono ?_;rintro e x1 ⟨rfl,m2,hx1⟩;have HX1:Hid (ab wr x1):=by rw[hx1];exact (zE wr).drew.drewN m2
       clear hx1;replace a0:=HX1.out.cell a0;replace a6:=HX1.out.cell a6;replace hS:=zZ (yJ a0 a6);have hfz:=(HC.out.1.ext HX1.out).frozAt (r:=k) (by omega) a0 c;refine hK.out _ _ (fun _=>hS.out) ?_;clear hK K;try simp only[kA]
       refine zS 1 [(14,82)] hS.out ?_;refine zT ?_;refine zN (zO 15 (fun K hK=>?_));go_simp;refine hK.out _ _ (fun h=>absurd rfl h) ?_;clear hK K;refine zD ?_;have hP:=HPUT.out x1 c (M1 k c*pv.inv) HX1.out;rw[F.scaleTo_succ]at hP;have HP1:=zZ hP.1;have HP2:=zZ (xD HC.out.2 hP.2);clear hP HPUT hS a0 a6 a7 hfz;go_wp2_with fail;go_roundw
       case rel=>exact⟨c+1,by go_num,by omega,HP1.out,HP2.out⟩
       case measure=>simp[intOf];omega
      ·have hce:c=u+1:=by omega
       rw[hce]at HC;have HM2:Hid (dQ base g 22 3 wr (F.scaleM M1 k pv.inv) (u+1)):=HC.out.1.congr fun r c _ hc=>by
        unfold F.scaleTo F.scaleM;by_cases e:r=k
        ·rw[if_pos ⟨e,hc⟩,if_pos e]
        ·rw[if_neg (fun h=>e h.1),if_neg e]
       have HB2:=zZ HC.out.2;clear HC hce;have HSTEP:Hid (F.redM (F.scaleM M1 k pv.inv) k=F.stepM N k p):=by show _=_;rw[<-HM1d.out,<-HPV.out];rfl
       generalize F.scaleM M1 k pv.inv=M2 at *
       clear HM1d HNK;go_upto_region 17 with (fail)
       go_wp2_with fail;go_loopw [86] (fun s86 wr=>∃(r:Nat),s86=A C r/\r<=6/\Hid (dQ base g 22 3 wr (F.redTo M2 k r 0) (u+1)/\Below base w wr)) (fun i _=>6-(intOf i).toNat)
       case atStart=>exact⟨0,rfl,by omega,by rw[F.redTo_zero];exact HM2.out,HB2.out⟩
       case round =>
        clear HM2 HB2;obtain⟨r,rfl,hr,HR⟩:=hrel;by_cases hr6:r<6
        ·obtain⟨b2,cu2,a0,a1,a2,-,-,a3,a4,-⟩:=HR.out.1.at_ (r:=r) hr6;have a6:=a3 k (by omega);have hv:F.redTo M2 k r 0 r k=M2 r k:=by unfold F.redTo;rw[if_neg (by omega)]
         rw[hv]at a6;clear a3 a4 hv;have hd3:decide ((r:Int)<6)=true:=by simp;omega
         by_cases hrk:r=k
         ·have HRK:=zZ hrk;have q1:((r:Int)==(k:Int))=true:=by simp[hrk]
          clear hrk;go_wp2_with fail;go_roundw
          case rel =>
           refine⟨r+1,by go_num,by omega,HR.out.1.congr fun r' c' h1 h2=>?_,HR.out.2⟩;unfold F.redTo;have:=HRK.out;by_cases e:r'≠k/\(r'<r\/r'=r/\c'<0)
           ·rw[if_pos e,if_pos ⟨e.1,by omega⟩]
           ·rw[if_neg e,if_neg (fun h=>e ⟨h.1,by omega⟩)]
          case measure=>simp[intOf];omega
         have q1:((r:Int)==(k:Int))=false:=by simp;omega
         have HRK:=zZ hrk;clear hrk;by_cases hf:M2 r k=0
         ·have q2:(((M2 r k).n:Int)==0)=true:=by rw[hf];rfl
          have HF:=zZ hf;clear hf;go_wp2_with fail;go_roundw
          case rel =>
           refine⟨r+1,by go_num,by omega,HR.out.1.congr fun r' c' h1 h2=>?_,HR.out.2⟩;unfold F.redTo;by_cases e0:r'=r
           ·subst e0;rw[if_neg (by omega),HF.out,F.zero_mul,F.add_zero];split<;>rfl
           ·by_cases e:r'≠k/\(r'<r\/r'=r/\c'<0)
            ·rw[if_pos e,if_pos ⟨e.1,by omega⟩]
            ·rw[if_neg e,if_neg (fun h=>e ⟨h.1,by omega⟩)]
          case measure=>simp[intOf];omega
         have q2:(((M2 r k).n:Int)==0)=false:=by rw[lk];simp[hf]
         clear hf;obtain⟨wo,rfl⟩:=nm (wr:World);go_upto_region 22 with (fail)
         clear a0 a1 a2 a6 q1 q2;go_wp2_with fail;go_loopw [108] (fun s108 wr=>∃(c:Nat),s108=A C c/\c<=u+1/\Hid (dQ base g 22 3 wr (F.redTo M2 k r c) (u+1)/\Below base w wr)) (fun i _=>u+1-(intOf i).toNat)
         case atStart=>exact⟨0,rfl,by omega,HR.out.1,HR.out.2⟩
         case round =>
          clear HR;obtain⟨c,rfl,hc,HC⟩:=hrel;by_cases hcu:c<u+1
          ·obtain⟨b2,cu2,a0,a1,a2,-,-,a3,a4,a5⟩:=HC.out.1.at_ (r:=r) hr6;obtain⟨b3,cu3,d0,d1,d2,-,-,d3,-,-⟩:=HC.out.1.at_ (r:=k) (by omega);have a6:=a3 c (by omega);have d6:=d3 c (by omega);have HPUT:=zZ a5;have hv:F.redTo M2 k r c r c=M2 r c:=by unfold F.redTo;rw[if_neg (by omega)]
           have hv2:F.redTo M2 k r c k c=M2 k c:=by unfold F.redTo;rw[if_neg (by omega)]
           rw[hv]at a6;rw[hv2]at d6;clear a3 a4 a5 d3 hv hv2;have HTr:=zZ (HTB.out _ HC.out.2);have hS:wr.drew.cell? ⟨g,r,none⟩=some (D (some ⟨b2,0,none⟩) (u+1) cu2)/\wr.drew.cell? ⟨b2,c,none⟩=some (A C ((M2 r c).n:Int))/\wr.drew.cell? ⟨g,k,none⟩=some (D (some ⟨b3,0,none⟩) (u+1) cu3)/\wr.drew.cell? ⟨b3,c,none⟩=some (A C ((M2 k c).n:Int)):=⟨a0,a6,d0,d6⟩
           replace hS:=zZ hS;have f1:(0:Int)<=(c:Int):=xT _;have f2:(c:Int)<(u:Int)+1:=by omega
           have f3:(0:Int)<=(r:Int):=xT _;have f4:(r:Int)<6:=by omega
           go_upto_region 24 with (fail)
           refine zR 18 (fun w'=>w'.cell? ⟨g,r,none⟩=some (D (some ⟨b2,0,none⟩) (u+1) cu2)/\w'.cell? ⟨b2,c,none⟩=some (A C ((M2 r c).n:Int))/\w'.cell? ⟨g,k,none⟩=some (D (some ⟨b3,0,none⟩) (u+1) cu3)/\w'.cell? ⟨b3,c,none⟩=some (A C ((M2 k c).n:Int))) ?_;refine zS 15 [(0,111),(1,112),(2,113),(3,114),(4,115),(5,116),(6,117),(7,118),(8,119),(9,120),(10,121),(11,122),(12,123),(13,124),(14,125)] hS.out ?_;iterate 15 refine zT ?_
           refine zN (zO 15 (fun K hK=>?_));go_simp;refine (AM (M2 r k) (M2 k c) _ (HTr.out.ext (zE _).drew)).mono ?_;rintro e x1 ⟨rfl,m2,hx1⟩;have HX1:Hid (ab wr x1):=by rw[hx1];exact (zE wr).drew.drewN m2
           clear hx1;replace a0:=HX1.out.cell a0;replace a6:=HX1.out.cell a6;replace d0:=HX1.out.cell d0;replace d6:=HX1.out.cell d6;replace hS:=zZ (yJ a0 (yJ a6 (yJ d0 d6)));have hfz:=(HC.out.1.ext HX1.out).frozAt (r:=r) hr6 a0 c;refine hK.out _ _ (fun _=>hS.out) ?_;clear hK K;try simp only[kA]
           refine zS 2 [(16,127),(17,128)] hS.out ?_;iterate 2 refine zT ?_
           refine zN (zO 18 (fun K hK=>?_));go_simp;refine hK.out _ _ (fun h=>absurd rfl h) ?_;clear hK K;refine zD ?_;rw[pD];have hP:=HPUT.out x1 c (M2 r c+M2 r k*M2 k c) HX1.out;rw[F.redTo_succ _ _ _ _ HRK.out]at hP;have HP1:=zZ hP.1;have HP2:=zZ (xD HC.out.2 hP.2);clear hP HPUT hS a0 a6 d0 d6 hfz;go_wp2_with fail;go_roundw
           case rel=>exact⟨c+1,by go_num,by omega,HP1.out,HP2.out⟩
           case measure=>simp[intOf];omega
          ·obtain rfl:c=u+1:=by omega
           go_wp2_with fail;go_roundw
           case rel =>
            refine⟨r+1,by go_num,by omega,HC.out.1.congr fun r' c' h1 h2=>?_,HC.out.2⟩;unfold F.redTo;by_cases e:r'≠k/\(r'<r\/r'=r/\c'<u+1)
            ·rw[if_pos e,if_pos ⟨e.1,by omega⟩]
            ·rw[if_neg e,if_neg (fun h=>e ⟨h.1,by omega⟩)]
           case measure=>simp[intOf];omega
        ·obtain rfl:r=6:=by omega
         go_wp2_with fail;go_roundw
         case rel =>
          refine⟨k+1,by go_num,by omega,F.stepM N k p,?_,F.unit_step H2.out (by omega) hp6 hkp (by rw[HPV.out];exact HZ.out),fun X=>(F.sol_step (by omega) hp6 (by rw[HPV.out];exact HZ.out)).trans (H3.out X),HR.out.2⟩;rw[<-HSTEP.out];refine HR.out.1.congr fun r' c' h1 _=>?_;unfold F.redTo F.redM;by_cases e:r'=k
          ·rw[if_neg (fun h=>h.1 e),if_pos e]
          ·rw[if_pos ⟨e,.inl h1⟩,if_neg e]
         case measure=>simp[intOf];omega
  ·obtain rfl:k=u:=by omega
   go_wp2_with fail;go_loopw [12] (fun s12 wr'=>∃(r:Nat),s12=A C r/\k<=r/\r<=6/\Hid (∀q,k<=q->q<r->N q k=0)/\wr'=wr) (fun i _=>6-(intOf i).toNat)
   case atStart=>exact⟨k,rfl,by omega,by omega,fun q h1 h2=>by omega,rfl⟩
   case round =>
    obtain⟨r,rfl,hkr,hr6,HR,rfl⟩:=hrel;by_cases hr:r<6
    ·obtain⟨b2,cu2,a0,a1,a2,-,-,a3,-,-⟩:=H1.out.at_ (r:=r) hr;have a6:=a3 k (by omega);clear a3;by_cases hz:N r k=0
     ·have hz':(((N r k).n:Int)!=0)=false:=by rw[hz];rfl
      have HZ:=zZ hz;clear hz;go_wp2_with fail;go_roundw
      case rel =>
       refine⟨r+1,by go_num,by omega,by omega,fun q h1 h2=>?_,trivial⟩;by_cases e:q=r
       ·subst e;exact HZ.out
       ·exact HR.out q h1 (by omega)
      case measure=>simp[intOf];omega
     ·have hz':(((N r k).n:Int)!=0)=true:=by rw[bne,lk];simp[hz]
      have HZ:=zZ hz;clear hz;go_wp2_with fail;go_ret
      refine⟨N,aa ?_,H1.out,H2.out,H3.out,H4.out⟩;cases hb:ra N k with
      |false=>rfl
      |true=>exact absurd ((lq N k).1 hb r hkr hr) HZ.out
    ·obtain rfl:r=6:=by omega
     go_wp2_with fail;go_ret
     exact⟨N,aa ((lq N k).2 (fun r h1 h2=>HR.out r h1 h2)).symm,H1.out,H2.out,H3.out,H4.out⟩
end Go.Proofs.YtpaidaphacoblaaGreatDoor

